import Derived.Test.YtononmcodecmaaaUKT
import Derived.Test.YtononmcodecmaaaUMO
import Derived.Test.YtononmcodecmaaaUOP
import Derived.OpenShut
import Derived.WideShapes
import Derived.ProofKit
import Derived.ChangeKeysEq
import Derived.BigFrame
import Derived.Deep.WholeRow
import Derived.Test.YtononmcodecmaaaULA
import Derived.Test.YtononmcodecmaaaUQx
import Derived.WalkKit
import Derived.KernelRfl
import Derived.Below
import Derived.Outline
import Derived.LoopTactic
import Derived.Laws.BitsLemmas
import Derived.Laws.BitsAllLaws
import Derived.Deep.LoopGhost
import Derived.Lib.Hide
import Derived.Deep.QuietTactic
import Derived.BigQuiet
import Derived.Deep.Draws
import Derived.Laws.StructEq
import Derived.Deep.Slices
import Derived.Deep.Fields
import Derived.ChangeSame
import Derived.Deep.CutBlock
import Derived.Deep.DeepCutAuto
import Derived.Deep.RegionHeld3
import Derived.StillTailTactics
import Derived.WalkSmall
import Derived.OwnWalk
import Derived.Laws.OwnMore
import Derived.Laws.BytesArg
import Derived.Laws.MakeOwn
import Derived.Laws.Tables
import Derived.Laws.Rows
import Derived.Laws.World
import Derived.Test.YtononmcodecmaaaUKR
import Derived.Test.YtononmcodecmaaaULB
section
/- Layer 4: the machine (part KU). -/
namespace Go.Proofs.Ytononmcodecmaaa.Cp
open Go.RowKit Go.Maps Go.Proofs Go.Proofs.YtononmcodecmaaaW Go.Proofs.YtononmcodecmaaaW.PrintWords
set_option maxRecDepth 100000
set_option linter.unusedVariables false
set_option linter.unusedSimpArgs false
attribute [local go_sem] cv_set cv_at cv_size
theorem wv_at (z : Wd) (hl : z.c.length = 33) : (wv z)[33]? = some (.int .u32 z.A) ∧ (wv z)[34]? = some (.int .u32 z.B) ∧ (wv z)[35]? = some (.string z.S) ∧ (wv z)[36]? = some (.string z.T) ∧ (wv z)[37]? = some (.slice z.an z.ans.length z.ac) ∧ (wv z)[38]? = some (.int .i64 z.fuel) := by
 simp [wv, List.getElem?_append, hl]
theorem wv_c (z : Wd) (hl : z.c.length = 33) (i : Nat) (hi : i < 33) : (wv z)[i]? = some (.int .u32 (reg z.c i)) := by
 simp [wv, List.getElem?_append, hl, hi, reg, List.getD_eq_getElem?_getD]
set_option maxHeartbeats 2000000 in
theorem Laid_calls (z : Wd) (w : World) (hz : WdOk w z) : Calls Try.prog 12 #[.agg (wv z)] w fun e w' => ∃ p b q n f l, e = .returned (.tuple #[.pointer (some ⟨p, 0, none⟩), .pointer (some ⟨q, 0, none⟩)]) ∧ n ≤ 160 ∧ Mm.Two w w' p b q n f l := by
 have hl := hz.wc.len
 have HZ := Lib.hid hz
 go_enter Try.func12, Try.ntmps12
 go_wp2_with (go_at_call 28; refine hold_ ?_)
 intro _
 refine (Mm.New_calls _).mono ?_
 rintro e wa ⟨rfl, hm, hg⟩
 have k0 : wa.heap[w.heap.size]? = some (.cells (wv z) 34 (0, 0)) := (hg.block _ (by simp) (fun e => by cases e)).trans (heap_alloc_new _ _)
 have hB : Below w.heap.size w wa := ((Below.refl _ w).alloc (Nat.le_refl _) _).trans ⟨hg.os, hg.tape, hg.output, hg.size, fun k hk => hg.block k (by simp; omega) (fun e => by cases e)⟩
 have hza : w.heap.size + 1 ≤ wa.heap.size := by have := hg.size; simpa using this
 obtain ⟨bl, hbl⟩ : ∃ bl, bl = (w.alloc (.cells (wv z) 34)).heap.size := ⟨_, rfl⟩
 obtain ⟨p, hp⟩ : ∃ p, p = (w.alloc (.cells (wv z) 34)).heap.size + 1 := ⟨_, rfl⟩
 rw [← hp, ← hbl] at hm
 rw [← hp]
 have hblw : w.heap.size < bl := by rw [hbl]; simp
 have hpw : w.heap.size ≤ p := by rw [hp]; simp; omega
 clear hg hp hbl
 have HM := Lib.hid hm
 have K0 := Lib.hid k0
 have HB := Lib.hid hB
 clear hm k0 hB
 go_wp2_with (go_at_call 29; refine hold_ ?_)
 intro _
 refine (Mm.rNew_calls wa).mono ?_
 rintro e wb ⟨rfl, hr, hg⟩
 have hb0 : Below wa.heap.size wa wb := ⟨hg.os, hg.tape, hg.output, hg.size, fun k hk => hg.block k hk (fun e => by cases e)⟩
 obtain ⟨q, hq⟩ : ∃ q, q = wa.heap.size := ⟨_, rfl⟩
 have T0 := Aside0.mk (⟨HM.out.below hb0, hr, by omega, by omega, belowS hb0 HB.out⟩ : Mm.Two w wb p bl wa.heap.size 0 (fun _ => 0) [])
 have K1 := Lib.hid ((hb0.block w.heap.size (by omega)).trans K0.out)
 have hzb : w.heap.size + 1 ≤ wb.heap.size := Nat.le_trans hza hb0.size
 rw [← hq] at T0 ⊢
 have hqw : w.heap.size < q := by omega
 clear hr hg hb0 HM K0 HB hza hq
 obtain ⟨v33, v34, v35, v36, v37, v38⟩ := wv_at z hl
 obtain ⟨An, hAn⟩ : ∃ An : Nat, z.A = (An : Int) := ⟨z.A.toNat, by have := hz.hA; omega⟩
 have hA2 : An < 4294967296 := by have := hz.hA; omega
 obtain ⟨Bn, hBn⟩ : ∃ Bn : Nat, z.B = (Bn : Int) := ⟨z.B.toNat, by have := hz.hB; omega⟩
 have hB2 : Bn < 4294967296 := by have := hz.hB; omega
 have hcS := Mm.cut_le z.S 120
 have hcT := Mm.cut_le z.T 40
 obtain ⟨S1, hS1⟩ : ∃ S1, S1 = z.S.extract 0 (min (z.S.size : Int) 120).toNat := ⟨_, rfl⟩
 obtain ⟨T1, hT1⟩ : ∃ T1, T1 = z.T.extract 0 (min (z.T.size : Int) 40).toNat := ⟨_, rfl⟩
 have hcS : S1.size ≤ 120 := by rw [hS1]; exact hcS
 have hcT : T1.size ≤ 40 := by rw [hT1]; exact hcT
 have HS1 := Lib.hid hS1
 have HT1 := Lib.hid hT1
 clear hS1 hT1
 have mS : 0 ≤ min (z.S.size : Int) 120 ∧ min (z.S.size : Int) 120 ≤ (z.S.size : Int) := by omega
 have mT : 0 ≤ min (z.T.size : Int) 40 ∧ min (z.T.size : Int) 40 ≤ (z.T.size : Int) := by omega
 have V33 := Lib.hid v33
 have V34 := Lib.hid v34
 have V35 := Lib.hid v35
 have V36 := Lib.hid v36
 clear v33 v34 v35 v36 v37 v38 hz
 rw [hAn] at V33
 rw [hBn] at V34
 clear hAn hBn
 have xa := (cellOf K1.out 33).trans V33.out
 have xs := (cellOf K1.out 35).trans V35.out
 have hzq : w.heap.size < wb.heap.size := by omega
 go_wp2
 refine wp_region_held_drew (S := fun w' => w'.cell? ⟨w.heap.size, 33, none⟩ = some (.int .u32 An) ∧ w'.cell? ⟨w.heap.size, 35, none⟩ = some (.string z.S)) (by kernel_rfl) ⟨xa, xs⟩ (fun hHeld => ?_)
 refine rh_take (i := 0) (k := 12) (v := ?_) rfl rfl (by kernel_rfl) (by kernel_rfl) (by kernel_rfl) (fun _ _ _ h => h) (Or.inl ⟨by rfl, ?_⟩) hHeld ?_
 rotate_left
 ·(intro w hSw; obtain ⟨s0, s1⟩ := hSw; go_simp; try with_reducible rfl)
 simp only [Act.put, List.setIfInBounds_toArray, List.set_cons_zero, List.set_cons_succ]
 refine rh_take (i := 1) (k := 13) (v := ?_) rfl rfl (by kernel_rfl) (by kernel_rfl) (by kernel_rfl) (fun _ _ _ h => h) (Or.inl ⟨by rfl, ?_⟩) hHeld ?_
 rotate_left
 ·(intro w hSw; obtain ⟨s0, s1⟩ := hSw; go_simp; try with_reducible rfl)
 simp only [Act.put, List.setIfInBounds_toArray, List.set_cons_zero, List.set_cons_succ]
 refine rh_take (i := 2) (k := 14) (v := ?_) rfl rfl (by kernel_rfl) (by kernel_rfl) (by kernel_rfl) (fun _ _ _ h => h) (Or.inl ⟨by rfl, ?_⟩) hHeld ?_
 rotate_left
 ·(intro w hSw; obtain ⟨s0, s1⟩ := hSw; go_simp; try with_reducible rfl)
 simp only [Act.put, List.setIfInBounds_toArray, List.set_cons_zero, List.set_cons_succ]
 refine rh_take (i := 3) (k := 15) (v := ?_) rfl rfl (by kernel_rfl) (by kernel_rfl) (by kernel_rfl) (fun _ _ _ h => h) (Or.inl ⟨by rfl, ?_⟩) hHeld ?_
 rotate_left
 ·(intro w hSw; obtain ⟨s0, s1⟩ := hSw; go_simp; try with_reducible rfl)
 simp only [Act.put, List.setIfInBounds_toArray, List.set_cons_zero, List.set_cons_succ]
 refine rh_take (i := 4) (k := 16) (v := ?_) rfl rfl (by kernel_rfl) (by kernel_rfl) (by kernel_rfl) (fun _ _ _ h => h) (Or.inl ⟨by rfl, ?_⟩) hHeld ?_
 rotate_left
 ·(intro w hSw; obtain ⟨s0, s1⟩ := hSw; go_simp; try with_reducible rfl)
 simp only [Act.put, List.setIfInBounds_toArray, List.set_cons_zero, List.set_cons_succ]
 refine rh_take (i := 5) (k := 17) (v := ?_) rfl rfl (by kernel_rfl) (by kernel_rfl) (by kernel_rfl) (fun _ _ _ h => h) (Or.inl ⟨by rfl, ?_⟩) hHeld ?_
 rotate_left
 ·(intro w hSw; obtain ⟨s0, s1⟩ := hSw; go_simp; try with_reducible rfl)
 simp only [Act.put, List.setIfInBounds_toArray, List.set_cons_zero, List.set_cons_succ]
 refine rh_take (i := 6) (k := 18) (v := ?_) rfl rfl (by kernel_rfl) (by kernel_rfl) (by kernel_rfl) (fun _ _ _ h => h) (Or.inl ⟨by rfl, ?_⟩) hHeld ?_
 rotate_left
 ·(intro w hSw; obtain ⟨s0, s1⟩ := hSw; go_simp; try with_reducible rfl)
 simp only [Act.put, List.setIfInBounds_toArray, List.set_cons_zero, List.set_cons_succ]
 refine rh_take (i := 7) (k := 19) (v := ?_) rfl rfl (by kernel_rfl) (by kernel_rfl) (by kernel_rfl) (fun _ _ _ h => h) (Or.inl ⟨by rfl, ?_⟩) hHeld ?_
 rotate_left
 ·(intro w hSw; obtain ⟨s0, s1⟩ := hSw; go_simp; try with_reducible rfl)
 simp only [Act.put, List.setIfInBounds_toArray, List.set_cons_zero, List.set_cons_succ]
 refine rh_take (i := 8) (k := 20) (v := ?_) rfl rfl (by kernel_rfl) (by kernel_rfl) (by kernel_rfl) (fun _ _ _ h => h) (Or.inl ⟨by rfl, ?_⟩) hHeld ?_
 rotate_left
 ·(intro w hSw; obtain ⟨s0, s1⟩ := hSw; go_simp; try with_reducible rfl)
 simp only [Act.put, List.setIfInBounds_toArray, List.set_cons_zero, List.set_cons_succ]
 refine rh_take (i := 9) (k := 21) (v := ?_) rfl rfl (by kernel_rfl) (by kernel_rfl) (by kernel_rfl) (fun _ _ _ h => h) (Or.inl ⟨by rfl, ?_⟩) hHeld ?_
 rotate_left
 ·(intro w hSw; obtain ⟨s0, s1⟩ := hSw; go_simp; try with_reducible rfl)
 simp only [Act.put, List.setIfInBounds_toArray, List.set_cons_zero, List.set_cons_succ]
 rw [← HS1.out]
 refine wpAnyH_ready (rs := [10]) (by kernel_rfl) (by simp) ?_
 refine AllReadyH.cons (i := 10) rfl (fun K hK => ?_) AllReadyH.nil
 go_simp
 refine (Mm.Put_at (T0.out.mem.below (Below.refl _ wb).drew) An _ S1 rfl (by omega) hA2).mono ?_
 rintro e wc ⟨rfl, hm, hg⟩
 have M1 := Lib.hid hm
 have R1 := Lib.hid ((T0.out.ref.below (Below.refl _ wb).drew).other (T0.out.mem.below (Below.refl _ wb).drew) hg)
 have hbe : Below w.heap.size w wc := T0.out.bel.trans ((Below.refl _ wb).drew.trans ⟨hg.os, hg.tape, hg.output, hg.size, fun k hk => hg.block k (by show k < wb.heap.size; omega) (fun e => by injection e with e; omega)⟩)
 have B1 := Lib.hid hbe
 have k1 : wc.heap[w.heap.size]? = some (.cells (wv z) 34 (0, 0)) := (hg.block w.heap.size (by show w.heap.size < wb.heap.size; omega) (fun e => by injection e with e; omega)).trans K1.out
 have xa' := (cellOf k1 33).trans V33.out
 have xs' := (cellOf k1 35).trans V35.out
 have hzwc : w.heap.size + 1 ≤ wc.heap.size := Nat.le_trans (show w.heap.size + 1 ≤ wb.heap.size by omega) hg.size
 go_wp2_with fail
 refine hK.out _ _ ⟨xa', xs'⟩ (fun hHeld => ?_)
 clear hK K
 try simp only [Act.put, List.setIfInBounds_toArray, List.set_cons_zero, List.set_cons_succ]
 refine wpAnyH_done (by kernel_rfl) ?_ _
 have K1' := Lib.hid k1
 clear hHeld hg k1 xa xs xa' xs' hzq K1 hm hbe T0
 have K1 := K1'
 clear K1'
 have xa := (cellOf K1.out 33).trans V33.out
 have xs := (cellOf K1.out 35).trans V35.out
 have hzq : w.heap.size < wc.heap.size := by omega
 go_wp2
 refine wp_region_held_drew (S := fun w' => w'.cell? ⟨w.heap.size, 33, none⟩ = some (.int .u32 An) ∧ w'.cell? ⟨w.heap.size, 35, none⟩ = some (.string z.S)) (by kernel_rfl) ⟨xa, xs⟩ (fun hHeld => ?_)
 refine rh_take (i := 0) (k := 23) (v := ?_) rfl rfl (by kernel_rfl) (by kernel_rfl) (by kernel_rfl) (fun _ _ _ h => h) (Or.inl ⟨by rfl, ?_⟩) hHeld ?_
 rotate_left
 ·(intro w hSw; obtain ⟨s0, s1⟩ := hSw; go_simp; try with_reducible rfl)
 simp only [Act.put, List.setIfInBounds_toArray, List.set_cons_zero, List.set_cons_succ]
 refine rh_take (i := 1) (k := 24) (v := ?_) rfl rfl (by kernel_rfl) (by kernel_rfl) (by kernel_rfl) (fun _ _ _ h => h) (Or.inl ⟨by rfl, ?_⟩) hHeld ?_
 rotate_left
 ·(intro w hSw; obtain ⟨s0, s1⟩ := hSw; go_simp; try with_reducible rfl)
 simp only [Act.put, List.setIfInBounds_toArray, List.set_cons_zero, List.set_cons_succ]
 refine rh_take (i := 2) (k := 25) (v := ?_) rfl rfl (by kernel_rfl) (by kernel_rfl) (by kernel_rfl) (fun _ _ _ h => h) (Or.inl ⟨by rfl, ?_⟩) hHeld ?_
 rotate_left
 ·(intro w hSw; obtain ⟨s0, s1⟩ := hSw; go_simp; try with_reducible rfl)
 simp only [Act.put, List.setIfInBounds_toArray, List.set_cons_zero, List.set_cons_succ]
 refine rh_take (i := 3) (k := 26) (v := ?_) rfl rfl (by kernel_rfl) (by kernel_rfl) (by kernel_rfl) (fun _ _ _ h => h) (Or.inl ⟨by rfl, ?_⟩) hHeld ?_
 rotate_left
 ·(intro w hSw; obtain ⟨s0, s1⟩ := hSw; go_simp; try with_reducible rfl)
 simp only [Act.put, List.setIfInBounds_toArray, List.set_cons_zero, List.set_cons_succ]
 refine rh_take (i := 4) (k := 27) (v := ?_) rfl rfl (by kernel_rfl) (by kernel_rfl) (by kernel_rfl) (fun _ _ _ h => h) (Or.inl ⟨by rfl, ?_⟩) hHeld ?_
 rotate_left
 ·(intro w hSw; obtain ⟨s0, s1⟩ := hSw; go_simp; try with_reducible rfl)
 simp only [Act.put, List.setIfInBounds_toArray, List.set_cons_zero, List.set_cons_succ]
 refine rh_take (i := 5) (k := 28) (v := ?_) rfl rfl (by kernel_rfl) (by kernel_rfl) (by kernel_rfl) (fun _ _ _ h => h) (Or.inl ⟨by rfl, ?_⟩) hHeld ?_
 rotate_left
 ·(intro w hSw; obtain ⟨s0, s1⟩ := hSw; go_simp; try with_reducible rfl)
 simp only [Act.put, List.setIfInBounds_toArray, List.set_cons_zero, List.set_cons_succ]
 refine rh_take (i := 6) (k := 29) (v := ?_) rfl rfl (by kernel_rfl) (by kernel_rfl) (by kernel_rfl) (fun _ _ _ h => h) (Or.inl ⟨by rfl, ?_⟩) hHeld ?_
 rotate_left
 ·(intro w hSw; obtain ⟨s0, s1⟩ := hSw; go_simp; try with_reducible rfl)
 simp only [Act.put, List.setIfInBounds_toArray, List.set_cons_zero, List.set_cons_succ]
 refine rh_take (i := 7) (k := 30) (v := ?_) rfl rfl (by kernel_rfl) (by kernel_rfl) (by kernel_rfl) (fun _ _ _ h => h) (Or.inl ⟨by rfl, ?_⟩) hHeld ?_
 rotate_left
 ·(intro w hSw; obtain ⟨s0, s1⟩ := hSw; go_simp; try with_reducible rfl)
 simp only [Act.put, List.setIfInBounds_toArray, List.set_cons_zero, List.set_cons_succ]
 refine rh_take (i := 8) (k := 31) (v := ?_) rfl rfl (by kernel_rfl) (by kernel_rfl) (by kernel_rfl) (fun _ _ _ h => h) (Or.inl ⟨by rfl, ?_⟩) hHeld ?_
 rotate_left
 ·(intro w hSw; obtain ⟨s0, s1⟩ := hSw; go_simp; try with_reducible rfl)
 simp only [Act.put, List.setIfInBounds_toArray, List.set_cons_zero, List.set_cons_succ]
 refine rh_take (i := 9) (k := 32) (v := ?_) rfl rfl (by kernel_rfl) (by kernel_rfl) (by kernel_rfl) (fun _ _ _ h => h) (Or.inl ⟨by rfl, ?_⟩) hHeld ?_
 rotate_left
 ·(intro w hSw; obtain ⟨s0, s1⟩ := hSw; go_simp; try with_reducible rfl)
 simp only [Act.put, List.setIfInBounds_toArray, List.set_cons_zero, List.set_cons_succ]
 rw [← HS1.out]
 refine wpAnyH_ready (rs := [10]) (by kernel_rfl) (by simp) ?_
 refine AllReadyH.cons (i := 10) rfl (fun K hK => ?_) AllReadyH.nil
 go_simp
 refine (Mm.rPut_calls q _ _ _ An S1 _ (R1.out.below (Below.refl _ wc).drew) (by omega) hA2).mono ?_
 rintro e wd ⟨rfl, hrr, hg⟩
 obtain ⟨lwd, hr⟩ := hrr
 have Twd := Aside0.mk (⟨(M1.out.below (Below.refl _ wc).drew).byRef (R1.out.below (Below.refl _ wc).drew) hg, hr, by omega, by omega, B1.out.trans ((Below.refl _ wc).drew.trans ⟨hg.os, hg.tape, hg.output, hg.size, fun k hk => hg.block k (by show k < wc.heap.size; omega) (fun e => by injection e with e; omega)⟩)⟩ : Mm.Two w wd p bl q _ _ lwd)
 have k1 : wd.heap[w.heap.size]? = some (.cells (wv z) 34 (0, 0)) := (hg.block w.heap.size (by show w.heap.size < wc.heap.size; omega) (fun e => by injection e with e; omega)).trans K1.out
 have xa' := (cellOf k1 33).trans V33.out
 have xs' := (cellOf k1 35).trans V35.out
 have hzwd : w.heap.size + 1 ≤ wd.heap.size := Nat.le_trans (show w.heap.size + 1 ≤ wc.heap.size by omega) hg.size
 go_wp2_with fail
 refine hK.out _ _ ⟨xa', xs'⟩ (fun hHeld => ?_)
 clear hK K
 try simp only [Act.put, List.setIfInBounds_toArray, List.set_cons_zero, List.set_cons_succ]
 refine wpAnyH_done (by kernel_rfl) ?_ _
 have K1' := Lib.hid k1
 clear hHeld hg k1 xa xs xa' xs' hzq K1 hr M1 R1 B1
 have K1 := K1'
 clear K1'
 have xa := (cellOf K1.out 34).trans V34.out
 have xs := (cellOf K1.out 36).trans V36.out
 have hzq : w.heap.size < wd.heap.size := by omega
 go_wp2
 refine wp_region_held_drew (S := fun w' => w'.cell? ⟨w.heap.size, 34, none⟩ = some (.int .u32 Bn) ∧ w'.cell? ⟨w.heap.size, 36, none⟩ = some (.string z.T)) (by kernel_rfl) ⟨xa, xs⟩ (fun hHeld => ?_)
 refine rh_take (i := 0) (k := 34) (v := ?_) rfl rfl (by kernel_rfl) (by kernel_rfl) (by kernel_rfl) (fun _ _ _ h => h) (Or.inl ⟨by rfl, ?_⟩) hHeld ?_
 rotate_left
 ·(intro w hSw; obtain ⟨s0, s1⟩ := hSw; go_simp; try with_reducible rfl)
 simp only [Act.put, List.setIfInBounds_toArray, List.set_cons_zero, List.set_cons_succ]
 refine rh_take (i := 1) (k := 35) (v := ?_) rfl rfl (by kernel_rfl) (by kernel_rfl) (by kernel_rfl) (fun _ _ _ h => h) (Or.inl ⟨by rfl, ?_⟩) hHeld ?_
 rotate_left
 ·(intro w hSw; obtain ⟨s0, s1⟩ := hSw; go_simp; try with_reducible rfl)
 simp only [Act.put, List.setIfInBounds_toArray, List.set_cons_zero, List.set_cons_succ]
 refine rh_take (i := 2) (k := 36) (v := ?_) rfl rfl (by kernel_rfl) (by kernel_rfl) (by kernel_rfl) (fun _ _ _ h => h) (Or.inl ⟨by rfl, ?_⟩) hHeld ?_
 rotate_left
 ·(intro w hSw; obtain ⟨s0, s1⟩ := hSw; go_simp; try with_reducible rfl)
 simp only [Act.put, List.setIfInBounds_toArray, List.set_cons_zero, List.set_cons_succ]
 refine rh_take (i := 3) (k := 37) (v := ?_) rfl rfl (by kernel_rfl) (by kernel_rfl) (by kernel_rfl) (fun _ _ _ h => h) (Or.inl ⟨by rfl, ?_⟩) hHeld ?_
 rotate_left
 ·(intro w hSw; obtain ⟨s0, s1⟩ := hSw; go_simp; try with_reducible rfl)
 simp only [Act.put, List.setIfInBounds_toArray, List.set_cons_zero, List.set_cons_succ]
 refine rh_take (i := 4) (k := 38) (v := ?_) rfl rfl (by kernel_rfl) (by kernel_rfl) (by kernel_rfl) (fun _ _ _ h => h) (Or.inl ⟨by rfl, ?_⟩) hHeld ?_
 rotate_left
 ·(intro w hSw; obtain ⟨s0, s1⟩ := hSw; go_simp; try with_reducible rfl)
 simp only [Act.put, List.setIfInBounds_toArray, List.set_cons_zero, List.set_cons_succ]
 refine rh_take (i := 5) (k := 39) (v := ?_) rfl rfl (by kernel_rfl) (by kernel_rfl) (by kernel_rfl) (fun _ _ _ h => h) (Or.inl ⟨by rfl, ?_⟩) hHeld ?_
 rotate_left
 ·(intro w hSw; obtain ⟨s0, s1⟩ := hSw; go_simp; try with_reducible rfl)
 simp only [Act.put, List.setIfInBounds_toArray, List.set_cons_zero, List.set_cons_succ]
 refine rh_take (i := 6) (k := 40) (v := ?_) rfl rfl (by kernel_rfl) (by kernel_rfl) (by kernel_rfl) (fun _ _ _ h => h) (Or.inl ⟨by rfl, ?_⟩) hHeld ?_
 rotate_left
 ·(intro w hSw; obtain ⟨s0, s1⟩ := hSw; go_simp; try with_reducible rfl)
 simp only [Act.put, List.setIfInBounds_toArray, List.set_cons_zero, List.set_cons_succ]
 refine rh_take (i := 7) (k := 41) (v := ?_) rfl rfl (by kernel_rfl) (by kernel_rfl) (by kernel_rfl) (fun _ _ _ h => h) (Or.inl ⟨by rfl, ?_⟩) hHeld ?_
 rotate_left
 ·(intro w hSw; obtain ⟨s0, s1⟩ := hSw; go_simp; try with_reducible rfl)
 simp only [Act.put, List.setIfInBounds_toArray, List.set_cons_zero, List.set_cons_succ]
 refine rh_take (i := 8) (k := 42) (v := ?_) rfl rfl (by kernel_rfl) (by kernel_rfl) (by kernel_rfl) (fun _ _ _ h => h) (Or.inl ⟨by rfl, ?_⟩) hHeld ?_
 rotate_left
 ·(intro w hSw; obtain ⟨s0, s1⟩ := hSw; go_simp; try with_reducible rfl)
 simp only [Act.put, List.setIfInBounds_toArray, List.set_cons_zero, List.set_cons_succ]
 refine rh_take (i := 9) (k := 43) (v := ?_) rfl rfl (by kernel_rfl) (by kernel_rfl) (by kernel_rfl) (fun _ _ _ h => h) (Or.inl ⟨by rfl, ?_⟩) hHeld ?_
 rotate_left
 ·(intro w hSw; obtain ⟨s0, s1⟩ := hSw; go_simp; try with_reducible rfl)
 simp only [Act.put, List.setIfInBounds_toArray, List.set_cons_zero, List.set_cons_succ]
 rw [← HT1.out]
 refine wpAnyH_ready (rs := [10]) (by kernel_rfl) (by simp) ?_
 refine AllReadyH.cons (i := 10) rfl (fun K hK => ?_) AllReadyH.nil
 go_simp
 refine (Mm.Put_at (Twd.out.mem.below (Below.refl _ wd).drew) Bn _ T1 rfl (by omega) hB2).mono ?_
 rintro e we ⟨rfl, hm, hg⟩
 have M1 := Lib.hid hm
 have R1 := Lib.hid ((Twd.out.ref.below (Below.refl _ wd).drew).other (Twd.out.mem.below (Below.refl _ wd).drew) hg)
 have hbe : Below w.heap.size w we := Twd.out.bel.trans ((Below.refl _ wd).drew.trans ⟨hg.os, hg.tape, hg.output, hg.size, fun k hk => hg.block k (by show k < wd.heap.size; omega) (fun e => by injection e with e; omega)⟩)
 have B1 := Lib.hid hbe
 have k1 : we.heap[w.heap.size]? = some (.cells (wv z) 34 (0, 0)) := (hg.block w.heap.size (by show w.heap.size < wd.heap.size; omega) (fun e => by injection e with e; omega)).trans K1.out
 have xa' := (cellOf k1 34).trans V34.out
 have xs' := (cellOf k1 36).trans V36.out
 have hzwe : w.heap.size + 1 ≤ we.heap.size := Nat.le_trans (show w.heap.size + 1 ≤ wd.heap.size by omega) hg.size
 go_wp2_with fail
 refine hK.out _ _ ⟨xa', xs'⟩ (fun hHeld => ?_)
 clear hK K
 try simp only [Act.put, List.setIfInBounds_toArray, List.set_cons_zero, List.set_cons_succ]
 refine wpAnyH_done (by kernel_rfl) ?_ _
 have K1' := Lib.hid k1
 clear hHeld hg k1 xa xs xa' xs' hzq K1 hm hbe Twd
 have K1 := K1'
 clear K1'
 have xa := (cellOf K1.out 34).trans V34.out
 have xs := (cellOf K1.out 36).trans V36.out
 have hzq : w.heap.size < we.heap.size := by omega
 go_wp2
 refine wp_region_held_drew (S := fun w' => w'.cell? ⟨w.heap.size, 34, none⟩ = some (.int .u32 Bn) ∧ w'.cell? ⟨w.heap.size, 36, none⟩ = some (.string z.T)) (by kernel_rfl) ⟨xa, xs⟩ (fun hHeld => ?_)
 refine rh_take (i := 0) (k := 45) (v := ?_) rfl rfl (by kernel_rfl) (by kernel_rfl) (by kernel_rfl) (fun _ _ _ h => h) (Or.inl ⟨by rfl, ?_⟩) hHeld ?_
 rotate_left
 ·(intro w hSw; obtain ⟨s0, s1⟩ := hSw; go_simp; try with_reducible rfl)
 simp only [Act.put, List.setIfInBounds_toArray, List.set_cons_zero, List.set_cons_succ]
 refine rh_take (i := 1) (k := 46) (v := ?_) rfl rfl (by kernel_rfl) (by kernel_rfl) (by kernel_rfl) (fun _ _ _ h => h) (Or.inl ⟨by rfl, ?_⟩) hHeld ?_
 rotate_left
 ·(intro w hSw; obtain ⟨s0, s1⟩ := hSw; go_simp; try with_reducible rfl)
 simp only [Act.put, List.setIfInBounds_toArray, List.set_cons_zero, List.set_cons_succ]
 refine rh_take (i := 2) (k := 47) (v := ?_) rfl rfl (by kernel_rfl) (by kernel_rfl) (by kernel_rfl) (fun _ _ _ h => h) (Or.inl ⟨by rfl, ?_⟩) hHeld ?_
 rotate_left
 ·(intro w hSw; obtain ⟨s0, s1⟩ := hSw; go_simp; try with_reducible rfl)
 simp only [Act.put, List.setIfInBounds_toArray, List.set_cons_zero, List.set_cons_succ]
 refine rh_take (i := 3) (k := 48) (v := ?_) rfl rfl (by kernel_rfl) (by kernel_rfl) (by kernel_rfl) (fun _ _ _ h => h) (Or.inl ⟨by rfl, ?_⟩) hHeld ?_
 rotate_left
 ·(intro w hSw; obtain ⟨s0, s1⟩ := hSw; go_simp; try with_reducible rfl)
 simp only [Act.put, List.setIfInBounds_toArray, List.set_cons_zero, List.set_cons_succ]
 refine rh_take (i := 4) (k := 49) (v := ?_) rfl rfl (by kernel_rfl) (by kernel_rfl) (by kernel_rfl) (fun _ _ _ h => h) (Or.inl ⟨by rfl, ?_⟩) hHeld ?_
 rotate_left
 ·(intro w hSw; obtain ⟨s0, s1⟩ := hSw; go_simp; try with_reducible rfl)
 simp only [Act.put, List.setIfInBounds_toArray, List.set_cons_zero, List.set_cons_succ]
 refine rh_take (i := 5) (k := 50) (v := ?_) rfl rfl (by kernel_rfl) (by kernel_rfl) (by kernel_rfl) (fun _ _ _ h => h) (Or.inl ⟨by rfl, ?_⟩) hHeld ?_
 rotate_left
 ·(intro w hSw; obtain ⟨s0, s1⟩ := hSw; go_simp; try with_reducible rfl)
 simp only [Act.put, List.setIfInBounds_toArray, List.set_cons_zero, List.set_cons_succ]
 refine rh_take (i := 6) (k := 51) (v := ?_) rfl rfl (by kernel_rfl) (by kernel_rfl) (by kernel_rfl) (fun _ _ _ h => h) (Or.inl ⟨by rfl, ?_⟩) hHeld ?_
 rotate_left
 ·(intro w hSw; obtain ⟨s0, s1⟩ := hSw; go_simp; try with_reducible rfl)
 simp only [Act.put, List.setIfInBounds_toArray, List.set_cons_zero, List.set_cons_succ]
 refine rh_take (i := 7) (k := 52) (v := ?_) rfl rfl (by kernel_rfl) (by kernel_rfl) (by kernel_rfl) (fun _ _ _ h => h) (Or.inl ⟨by rfl, ?_⟩) hHeld ?_
 rotate_left
 ·(intro w hSw; obtain ⟨s0, s1⟩ := hSw; go_simp; try with_reducible rfl)
 simp only [Act.put, List.setIfInBounds_toArray, List.set_cons_zero, List.set_cons_succ]
 refine rh_take (i := 8) (k := 53) (v := ?_) rfl rfl (by kernel_rfl) (by kernel_rfl) (by kernel_rfl) (fun _ _ _ h => h) (Or.inl ⟨by rfl, ?_⟩) hHeld ?_
 rotate_left
 ·(intro w hSw; obtain ⟨s0, s1⟩ := hSw; go_simp; try with_reducible rfl)
 simp only [Act.put, List.setIfInBounds_toArray, List.set_cons_zero, List.set_cons_succ]
 refine rh_take (i := 9) (k := 54) (v := ?_) rfl rfl (by kernel_rfl) (by kernel_rfl) (by kernel_rfl) (fun _ _ _ h => h) (Or.inl ⟨by rfl, ?_⟩) hHeld ?_
 rotate_left
 ·(intro w hSw; obtain ⟨s0, s1⟩ := hSw; go_simp; try with_reducible rfl)
 simp only [Act.put, List.setIfInBounds_toArray, List.set_cons_zero, List.set_cons_succ]
 rw [← HT1.out]
 refine wpAnyH_ready (rs := [10]) (by kernel_rfl) (by simp) ?_
 refine AllReadyH.cons (i := 10) rfl (fun K hK => ?_) AllReadyH.nil
 go_simp
 refine (Mm.rPut_calls q _ _ _ Bn T1 _ (R1.out.below (Below.refl _ we).drew) (by omega) hB2).mono ?_
 rintro e wf ⟨rfl, hrr, hg⟩
 obtain ⟨lwf, hr⟩ := hrr
 have Twf := Aside0.mk (⟨(M1.out.below (Below.refl _ we).drew).byRef (R1.out.below (Below.refl _ we).drew) hg, hr, by omega, by omega, B1.out.trans ((Below.refl _ we).drew.trans ⟨hg.os, hg.tape, hg.output, hg.size, fun k hk => hg.block k (by show k < we.heap.size; omega) (fun e => by injection e with e; omega)⟩)⟩ : Mm.Two w wf p bl q _ _ lwf)
 have k1 : wf.heap[w.heap.size]? = some (.cells (wv z) 34 (0, 0)) := (hg.block w.heap.size (by show w.heap.size < we.heap.size; omega) (fun e => by injection e with e; omega)).trans K1.out
 have xa' := (cellOf k1 34).trans V34.out
 have xs' := (cellOf k1 36).trans V36.out
 have hzwf : w.heap.size + 1 ≤ wf.heap.size := Nat.le_trans (show w.heap.size + 1 ≤ we.heap.size by omega) hg.size
 go_wp2_with fail
 refine hK.out _ _ ⟨xa', xs'⟩ (fun hHeld => ?_)
 clear hK K
 try simp only [Act.put, List.setIfInBounds_toArray, List.set_cons_zero, List.set_cons_succ]
 refine wpAnyH_done (by kernel_rfl) ?_ _
 have K1' := Lib.hid k1
 clear hHeld hg k1 xa xs xa' xs' hzq K1 hr M1 R1 B1
 have K1 := K1'
 clear K1'
 go_wp2
 go_ret2
 exact ⟨p, bl, q, _, _, lwf, rfl, by omega, Twf.out⟩
end Go.Proofs.Ytononmcodecmaaa.Cp
end
section
/- Layer 4: the machine (part KV). -/
namespace Go.Proofs.Ytononmcodecmaaa.Cp
open Go.RowKit Go.Maps Go.Proofs Go.Proofs.YtononmcodecmaaaW Go.Proofs.YtononmcodecmaaaW.PrintWords
set_option maxRecDepth 100000
set_option linter.unusedVariables false
set_option linter.unusedSimpArgs false
attribute [local go_sem] cv_set cv_at cv_size
end Go.Proofs.Ytononmcodecmaaa.Cp
end
section
/- Layer 4: the machine (part KW). -/
namespace Go.Proofs.Ytononmcodecmaaa.Cp
open Go.RowKit Go.Maps Go.Proofs Go.Proofs.YtononmcodecmaaaW Go.Proofs.YtononmcodecmaaaW.PrintWords
set_option maxRecDepth 100000
set_option linter.unusedVariables false
set_option linter.unusedSimpArgs false
attribute [local go_sem] cv_set cv_at cv_size
theorem wv_size (z : Wd) (hl : z.c.length = 33) : (wv z).size = 39 := by simp [wv, hl]
theorem infoW : (Try.prog.info? 34).map (·.size) = some 39 := by kernel_rfl
theorem ldW {ops : Array Oper} {rest : List Oper} {o : Oper} {a : Act} {w : World} {Q : Exit → Act → World → Prop} (hgd : o.guard = none) (x : Operand) (ho : o.op = .load 34 x)
  (g : Nat) (hx : a.eval x = .pointer (some ⟨g, 0, none⟩)) (z : Wd) (fr : Nat × Nat) (hg : w.heap[g]? = some (.cells (wv z) 34 fr)) (hc : z.c.length = 33)
  (h : wpList Try.prog ops Q rest (a.put o.dst (.agg (wv z))) w) : wpList Try.prog ops Q (o :: rest) a w :=
 wpList_load_row hgd _ x ho g hx _ _ fr _ hg Try.underlying34 rfl (infoW.trans (by rw [wv_size z hc])) h
theorem loadSub (w : World) (g : Nat) (c : List Int) (hcell : ∀ j, j < 33 → w.cell? ⟨g, j, none⟩ = some (.int .u32 (reg c j))) (hc : c.length = 33) : (loadVar 25 ⟨g, 0, none⟩).run Try.prog w = .ok (.agg (cv c)) w := by
 have hl : (loadCells ⟨g, 0, none⟩ (cv c).toList.length).run Try.prog w = .ok (cv c).toList.toArray w :=
  run_loadCells_list (P := Try.prog) w ⟨g, 0, none⟩ (cv c).toList (fun j v hv => by
   have hadd : (⟨g, 0, none⟩ : Addr).add j = ⟨g, j, none⟩ := by unfold Addr.add; split <;> simp_all
   have hj : j < 33 := by
    have := (List.getElem?_eq_some_iff.1 hv).1
    rw [Array.length_toList, cv_size] at this
    omega
   rw [hadd, hcell j hj]
   rw [Array.getElem?_toList, cv_get c j (by omega)] at hv
   exact hv)
 have hi := infoC
 cases hq : Try.prog.info? 25 with
 | none => simp [hq] at hi
 | some i =>
  have hs : i.size = 33 := by simpa [hq] using hi
  have hagg : (isAgg 25).run Try.prog w = .ok true w := by
   unfold isAgg
   rw [Sem.run_bind, run_underlying Try.underlying25 w]
   simp
  simp only [Array.length_toList, Array.toArray_toList, cv_size, hc] at hl
  simp [loadVar, Sem.run_bind, hagg, sizeOf, typeInfo, hq, hs, hl]
theorem ldS {ops : Array Oper} {rest : List Oper} {o : Oper} {a : Act} {w : World} {Q : Exit → Act → World → Prop} (hgd : o.guard = none) (x : Operand) (ho : o.op = .load 25 x)
  (g : Nat) (hx : a.eval x = .pointer (some ⟨g, 0, none⟩)) (z : Wd) (t : TypeId) (fr : Nat × Nat) (hg : w.heap[g]? = some (.cells (wv z) t fr)) (hc : z.c.length = 33)
  (h : wpList Try.prog ops Q rest (a.put o.dst (.agg (cv z.c))) w) : wpList Try.prog ops Q (o :: rest) a w := by
 refine wpList_plain hgd fun K hK => ?_
 have hld := loadSub w g z.c (fun j hj => by rw [cell_of_row w g j _ t fr hg, wv_c z hc j hj]) hc
 unfold Oper.wp execOp
 simp only [ho, hx, Instr.loadAt, Instr.sureAddr, Sem.run_bind, Sem.run_pure, Result.andThen_ok, hld]
 exact hK _ _ h
theorem AnsAt.below {w w' : World} {A : Option Addr} {ans : List Int} (h : AnsAt w A ans) (hB : Below w.heap.size w w') : AnsAt w' A ans := by
 intro i hi
 obtain ⟨ad, e, hb, hc⟩ := h i hi
 refine ⟨ad, e, Nat.lt_of_lt_of_le hb hB.size, ?_⟩
 exact (World.cell?_of_block (by rw [add_block]; exact hB.block ad.block hb)).trans hc
end Go.Proofs.Ytononmcodecmaaa.Cp
end
section
/- Layer 4: the machine (part KX). -/
namespace Go.Proofs.Ytononmcodecmaaa.Cp
open Go.RowKit Go.Maps Go.Proofs Go.Proofs.YtononmcodecmaaaW Go.Proofs.YtononmcodecmaaaW.PrintWords
set_option maxRecDepth 100000
set_option linter.unusedVariables false
set_option linter.unusedSimpArgs false
attribute [local go_sem] cv_set cv_at cv_size
def One (d c : List Int) : Prop := ∃ r, ∀ i, i < 32 → i ≠ r → reg d i = reg c i
theorem set0_set0 (c : List Int) : (c.set 0 0).set 0 0 = c.set 0 (0 : Int) := List.set_set _
def cnt (d c : List Int) : Nat → Nat
 | 0 => 0
 | j + 1 => cnt d c j + (if reg d j ≠ reg c j then 1 else 0)
end Go.Proofs.Ytononmcodecmaaa.Cp
end
section
/- Layer 4: the machine (part KQ). -/
namespace Go.Proofs.Ytononmcodecmaaa.Cp
open Go.RowKit Go.Maps Go.Proofs Go.Proofs.YtononmcodecmaaaW Go.Proofs.YtononmcodecmaaaW.PrintWords
set_option maxRecDepth 100000
set_option linter.unusedVariables false
set_option linter.unusedSimpArgs false
attribute [local go_sem] cv_set cv_at cv_size
theorem ldCw {ops : Array Oper} {rest : List Oper} {o : Oper} {a : Act} {w : World} {Q : Exit → Act → World → Prop} (hw : Region.wanted o (yielded ops a.tmps) = true) (x : Operand) (ho : o.op = .load 25 x)
  (g : Nat) (hx : a.eval x = .pointer (some ⟨g, 0, none⟩)) (c : List Int) (fr : Nat × Nat) (hg : w.heap[g]? = some (.cells (cv c) 25 fr)) (hc : c.length = 33)
  (h : wpList Try.prog ops Q rest (a.put o.dst (.agg (cv c))) w) : wpList Try.prog ops Q (o :: rest) a w :=
 BigFrame.wpList_want hw fun _ hK => wp_load_row _ x ho g hx _ _ fr _ hg Try.underlying25 rfl (infoC.trans (by rw [cv_size, hc])) (hK _ _ h)
theorem eqU (d : Nat) (z : Int) (w : World) : (Op.equalIn (d + 1) 22 (.int .u32 z) (.int .u32 z)).run Try.prog w = .ok true w := by
 simp [Op.equalIn, Sem.run_bind, run_underlying Try.underlying22]
theorem partU (xs : Array Value) (i : Nat) (z : Int) (h : xs[i]? = some (.int .u32 z)) (w : World) : (part 22 xs i).run Try.prog w = .ok (.int .u32 z) w :=
 run_part_plain w (by kernel_rfl) h
theorem eqItems_refl (d : Nat) (xs : Array Value) (w : World) : ∀ is : List Nat, (∀ i ∈ is, ∃ z, xs[i]? = some (.int .u32 z)) → (Op.eqItems (d + 1) 22 1 xs xs is).run Try.prog w = .ok true w
 | [], _ => by simp [Op.eqItems]
 | i :: is, h => by
  obtain ⟨z, hz⟩ := h i (List.mem_cons_self)
  have ih := eqItems_refl d xs w is (fun j hj => h j (List.mem_cons_of_mem _ hj))
  simp only [Op.eqItems, Sem.run_bind, Nat.mul_one, partU xs i z hz w, Result.andThen_ok, eqU d z w]
  simpa using ih
theorem eqArr (d : Nat) (c : List Int) (hc : 32 ≤ c.length) (w : World) : (Op.equalIn (d + 2) 23 (.agg ((cv c).extract 0 32)) (.agg ((cv c).extract 0 32))).run Try.prog w = .ok true w := by
 obtain ⟨i, hi⟩ : ∃ i, Try.prog.info? 22 = some i := ⟨_, rfl⟩
 rw [run_equalIn_array w (d + 1) _ _ Try.underlying23 hi, show Try.prog.cellsOf 22 = 1 by kernel_rfl]
 refine eqItems_refl d _ w _ (fun j hj => ?_)
 have hj : j < 32 := by simpa using hj
 refine ⟨reg c j, ?_⟩
 rw [Array.getElem?_extract, if_pos (by rw [cv_size]; omega), Nat.zero_add, cv_get c j (by omega)]
theorem eqC (c : List Int) (hc : c.length = 33) (w : World) : (Op.equalIn 10000 25 (.agg (cv c)) (.agg (cv c))).run Try.prog w = .ok true w := by
 refine (eqA_of (d := 9999) Try.underlying25 (by kernel_rfl) ?_ : (Op.equalIn (9999 + 1) 25 (.agg (cv c)) (.agg (cv c))).run Try.prog w = .ok true w)
 have h0 : ∀ w, (part 23 (cv c) 0).run Try.prog w = .ok (.agg ((cv c).extract 0 32)) w := by
  intro w
  obtain ⟨i, hi⟩ : ∃ i, Try.prog.info? 23 = some i := ⟨_, rfl⟩
  have hs : Try.prog.cellsOf 23 = 32 := by kernel_rfl
  simp only [part, isAgg, Sem.run_bind, run_underlying Try.underlying23, Result.andThen_ok, Sem.run_pure, if_true, run_sizeOf w hi, hs, Nat.zero_add]
 have h1 := partU (cv c) 32 (reg c 32) (cv_get c 32 (by omega)) w
 have e1 := eqArr 9997 c (by omega) w
 rw [show 9997 + 2 = 9999 from rfl] at e1
 have e2 := eqU 9998 (reg c 32) w
 rw [show 9998 + 1 = 9999 from rfl] at e2
 have e3 := eqf_last (P := Try.prog) (d := 9999) (xs := cv c) (ys := cv c) (f := ⟨"Pc", 22, 32, false, "", "", 128⟩) rfl h1 h1 e2
 have e4 := eqf_cons (P := Try.prog) (d := 9999) (xs := cv c) (ys := cv c) (f := ⟨"X", 23, 0, false, "", "", 0⟩) rfl (h0 w) (h0 w) e1 e3
 exact e4
theorem eqB (c : List Int) (hc : c.length = 33) (w : World) : (binOp .eql 25 (.agg (cv c)) (.agg (cv c))).run Try.prog w = .ok (.bool true) w := by
 rw [run_eql_struct, eqC c hc w]
 rfl
end Go.Proofs.Ytononmcodecmaaa.Cp
end
section
/- Layer 4: the machine (part KZ). -/
namespace Go.Proofs.Ytononmcodecmaaa.Cp
open Go.RowKit Go.Maps Go.Proofs Go.Proofs.YtononmcodecmaaaW Go.Proofs.YtononmcodecmaaaW.PrintWords
set_option maxRecDepth 100000
set_option linter.unusedVariables false
set_option linter.unusedSimpArgs false
attribute [local go_sem] cv_set cv_at cv_size
theorem ld_put4 (f : Nat → Nat) (a v : Nat) (ha : a < 4294967296) (hv : v < 4294967296) : Mm.ld (Mm.putn f a (fun j => v / 256 ^ j % 256) 4) a 4 = v := by
 have h := fun i (hi : i < 4) => Mm.putn_get f a (fun j => v / 256 ^ j % 256) 4 i ha (by decide) hi
 generalize Mm.putn f a (fun j => v / 256 ^ j % 256) 4 = g at *
 have h0 := h 0 (by omega)
 have h1 := h 1 (by omega)
 have h2 := h 2 (by omega)
 have h3 := h 3 (by omega)
 clear h
 show (((0 + g ((a + 0) % 4294967296) * 256 ^ 0) + g ((a + 1) % 4294967296) * 256 ^ 1) + g ((a + 2) % 4294967296) * 256 ^ 2) + g ((a + 3) % 4294967296) * 256 ^ 3 = v
 rw [h0, h1, h2, h3]
 simp only [Nat.pow_zero, Nat.pow_one, Nat.reducePow]
 omega
theorem does_right (c : List Int) (op rd a b m : Int) (d : List Int) (h : doesv c op rd a b m = (d, true)) : Q.rightv op rd a b m = true := by
 unfold doesv at h
 by_cases hr : Q.rightv op rd a b m = true
 ·exact hr
 ·rw [if_neg hr] at h
  cases h
theorem does_set0 (c : List Int) (op rd a b m : Int) : doesv (c.set 0 0) op rd a b m = doesv c op rd a b m := by
 unfold doesv
 rw [set0_set0]
theorem enc_dec (op rd a b m : Int) (h : Q.rightv op rd a b m = true) : ∃ w : Nat, w < 4294967296 ∧ Q.whetstoneref02_Encode.f 200 op rd a b m = some ((w : Int), 0) ∧ Q.inst_Decode.f 200 (w : Int) = some (op, rd, a, b, m, 0) := by
 rcases Q.Enc_cases op rd a b m with ⟨_, w, hw, h2⟩ | ⟨h2, _⟩
 ·have h3 := h2 200 (by omega)
  exact ⟨w, hw, (Q.rEncode_eq op rd a b m).trans h3.1, h3.2⟩
 ·rw [h2] at h
  cases h
theorem decT_of (v : Nat) (op rd a b m : Int) (h : Q.inst_Decode.f 200 (v : Int) = some (op, rd, a, b, m, 0)) : decT v = (op, rd, a, b, m, 0) := by
 unfold decT
 rw [h]
 rfl
theorem plain_step (c : List Int) (hl : c.length = 33) (f : Nat → Nat) (op rd a b m : Int) (d : List Int) (hd : doesv c op rd a b m = (d, true)) (v : Nat) (hv : v < 4294967296)
  (hdec : Q.inst_Decode.f 200 (v : Int) = some (op, rd, a, b, m, 0)) (pc : Nat) (hp : pc < 4294967296) (hpc : reg c 32 = (pc : Int)) (h4 : pc % 4 = 0) :
  stepv c (Mm.putn f pc (fun j => v / 256 ^ j % 256) 4) = (d, Mm.putn f pc (fun j => v / 256 ^ j % 256) 4, 0) := by
 have hr : reg (c.set 0 0) 32 = (pc : Int) := by rw [reg_set_ne _ _ _ _ (by omega)]; exact hpc
 have hld := ld_put4 f pc v hp hv
 generalize Mm.putn f pc (fun j => v / 256 ^ j % 256) 4 = g at *
 have h := stepv_eq c g op rd a b m 0 (by rw [hr]; omega) (by rw [hr, Int.toNat_natCast, hld]; exact decT_of v op rd a b m hdec)
 rw [h, if_neg (fun e => e rfl), does_set0, hd, if_pos rfl]
theorem four_of (tt : Nat) (h : tt < 4294967296) : tt &&& 4294967292 = tt - tt % 4 := by
 apply Nat.eq_of_testBit_eq
 intro i
 match i with
 | 0 =>
  rw [Nat.testBit_and]
  simp only [Nat.testBit_zero]
  rw [show (4294967292 : Nat) % 2 = 0 from rfl, show (tt - tt % 4) % 2 = 0 by omega]
  simp
 | 1 =>
  rw [Nat.testBit_and, Nat.testBit_succ, Nat.testBit_succ, Nat.testBit_succ]
  simp only [Nat.testBit_zero]
  rw [show (4294967292 : Nat) / 2 % 2 = 0 from rfl, show (tt - tt % 4) / 2 % 2 = 0 by omega]
  simp
 | i + 2 =>
  rw [Nat.testBit_and, Nat.testBit_succ, Nat.testBit_succ, Nat.testBit_succ, Nat.testBit_succ, Nat.testBit_succ, Nat.testBit_succ, show (4294967292 : Nat) / 2 / 2 = 2 ^ 30 - 1 from rfl, Nat.testBit_two_pow_sub_one, show (tt - tt % 4) / 2 / 2 = tt / 2 / 2 by omega]
  by_cases hi : i < 30
  ·simp [hi]
  ·have : (tt / 2 / 2).testBit i = false := Nat.testBit_lt_two_pow (Nat.lt_of_lt_of_le (show tt / 2 / 2 < 2 ^ 30 by omega) (Nat.pow_le_pow_right (by omega) (by omega)))
   rw [this]
   simp
set_option maxHeartbeats 4000000 in
theorem row_CpuPlain (z : Wd) (op rd a b m : Int) (w : World) (hz : WdOk w z) (q0 : (Lit.int .i64 op).wf = true) (q1 : (Lit.int .i64 rd).wf = true) (q2 : (Lit.int .i64 a).wf = true) (q3 : (Lit.int .i64 b).wf = true) (q4 : (Lit.int .i64 m).wf = true) : Calls Try.prog 6 #[.agg (wv z), ia op rd a b m] w fun e w' => e = .returned (.bool true) ∧ Below w.heap.size w w' := by
 clear q0 q1 q2 q3 q4
 have hl := hz.wc.len
 have hwc := hz.wc
 have hb0 : Below w.heap.size w ((w.alloc (.cells (wv z) 34)).alloc (.cells #[.int .i64 op, .int .i64 rd, .int .i64 a, .int .i64 b, .int .i64 m] 27)) := ((Below.refl _ w).alloc (Nat.le_refl _) _).alloc (by simp) _
 have HLD := Lib.hid (Laid_calls z ((w.alloc (.cells (wv z) 34)).alloc (.cells #[.int .i64 op, .int .i64 rd, .int .i64 a, .int .i64 b, .int .i64 m] 27)) ⟨hz.wc, hz.hA, hz.hB, hz.hS, hz.hT, hz.ans.below hb0, hz.rng, hz.len, hz.fuel⟩)
 have hr32 := hwc.rng 32
 obtain ⟨P, hP⟩ : ∃ P : Nat, (P : Int) = reg z.c 32 - reg z.c 32 % 4 := ⟨(reg z.c 32 - reg z.c 32 % 4).toNat, by omega⟩
 have hP1 : P < 4294967296 := by omega
 have hP4 : P % 4 = 0 := by omega
 have hev : Go.bits .andNot .u32 (reg z.c 32) 3 = (P : Int) := by
  obtain ⟨q, hq⟩ : ∃ q : Nat, reg z.c 32 = (q : Int) := ⟨(reg z.c 32).toNat, by omega⟩
  rw [hq] at hP hr32 ⊢
  have h3 := u32_andNot_nat q 3 (by omega) (by decide)
  rw [show ((3 : Nat) : Int) = 3 from rfl, show 4294967295 - 3 = 4294967292 from rfl, four_of q (by omega)] at h3
  rw [h3, hP]
  omega
 have hcw := hwc.set 32 (P : Int) (by omega)
 have hlc := hcw.len
 have hcp : reg (z.c.set 32 (P : Int)) 32 = (P : Int) := reg_set_eq _ _ _ (by omega)
 have HD := Lib.hid (Does_calls (z.c.set 32 (P : Int)) hcw op rd a b m)
 have hdw := (hcw.does op rd a b m)
 obtain ⟨t, ht⟩ : ∃ t, doesv (z.c.set 32 (P : Int)) op rd a b m = t := ⟨_, rfl⟩
 rw [ht] at HD hdw
 obtain ⟨d, is⟩ := t
 simp only at HD hdw
 have hld := hdw.len
 have HT := Lib.hid ht
 have HP := Lib.hid hP
 have HCP := Lib.hid hcp
 have HCW := Lib.hid hcw
 clear hz hb0 hP hr32 hwc ht hdw hcp
 go_enter Try.func6, Try.ntmps6
 go_wp2_with (first | refine ldW rfl _ rfl _ rfl z (0, 0) (heap_alloc2_old _ _ _) hl ?_ | (go_at_call 12; refine hold_ ?_))
 intro _
 refine HLD.out.mono ?_
 rintro e wa ⟨p, bl, q, n, f, l, rfl, hn, T0⟩
 obtain ⟨k0, k1, hza, hB⟩ := keep2 T0.bel
 have hblw : w.heap.size + 2 ≤ bl := by have := T0.hb; simp at this; omega
 have HM := Lib.hid T0.mem
 have K0 := Lib.hid k0
 have K1 := Lib.hid k1
 have HB := Lib.hid hB
 have hpl := T0.mem.lt
 have hbll := T0.mem.map.lt
 clear T0 k0 k1 hB HLD
 have hfz : World.frozen? (wa.alloc (.cells (cv z.c) 25)) ⟨wa.heap.size, 32, none⟩ = false := frozen_of_row _ _ _ _ _ (heap_alloc_new _ _)
 have hcl := cellC (heap_alloc_new wa (.cells (cv z.c) 25)) hl 32 (by omega)
 have hst := stRow (heap_alloc_new wa (.cells (cv z.c) 25)) 32 (P : Int)
 have K7 := Lib.hid (setRow_heap (wa.alloc (.cells (cv z.c) 25)) wa.heap.size _ (cv (z.c.set 32 (P : Int))) _ _ (heap_alloc_new wa (.cells (cv z.c) 25)))
 have hb7 : Below wa.heap.size wa ((wa.alloc (.cells (cv z.c) 25)).setRow wa.heap.size (cv (z.c.set 32 (P : Int)))) := below_setRow ((Below.refl _ wa).alloc (Nat.le_refl _) _) (Nat.le_refl _) _
 have HB7 := Lib.hid hb7
 have hz7 : ((wa.alloc (.cells (cv z.c) 25)).setRow wa.heap.size (cv (z.c.set 32 (P : Int)))).heap.size = wa.heap.size + 1 := by rw [size_setRow]; simp
 have K1s := Lib.hid ((hb7.block (w.heap.size + 1) (by omega)).trans K1.out)
 have x0 := cellOf K1s.out 0
 have x1 := cellOf K1s.out 1
 have x2 := cellOf K1s.out 2
 have x3 := cellOf K1s.out 3
 have x4 := cellOf K1s.out 4
 simp at x0 x1 x2 x3 x4
 clear hb7
 go_wp2_with (first | refine ldS rfl _ rfl _ rfl z _ (0, 0) K0.out hl ?_ | refine alC rfl rfl ?_ | refine stN rfl _ _ rfl _ rfl rfl zs hl rfl ?_ | refine ldC rfl _ rfl _ rfl _ (0, 0) K7.out hlc ?_ | (go_at_call 9; refine hold_ ?_))
 intro _
 have HM1 := Lib.hid (HM.out.below HB7.out)
 have HB1 := Lib.hid (belowS HB7.out HB.out)
 clear x0 x1 x2 x3 x4 hfz hcl hst K0 K1 HM HB HB7 hev
 generalize ((wa.alloc (.cells (cv z.c) 25)).setRow wa.heap.size (cv (z.c.set 32 (P : Int)))) = w1 at *
 obtain ⟨g7, hg7⟩ : ∃ g7, g7 = wa.heap.size := ⟨_, rfl⟩
 rw [← hg7] at hz7 K7 hza hpl hbll ⊢
 clear hg7
 refine (HD.out _).mono ?_
 rintro e w2 ⟨rfl, hb2⟩
 have hz2 := hb2.size
 have hbn : Below w1.heap.size w1 (w2.alloc (.cells (cv d) 25)) := hb2.alloc hz2 _
 have hz3 : (w2.alloc (.cells (cv d) 25)).heap.size = w2.heap.size + 1 := by simp
 have K7n := Lib.hid ((hbn.block g7 (by omega)).trans K7.out)
 have K1n := Lib.hid ((hbn.block (w.heap.size + 1) (by omega)).trans K1s.out)
 have K8 := Lib.hid (heap_alloc_new w2 (.cells (cv d) 25))
 have HM3 := Lib.hid (HM1.out.below hbn)
 have HB3 := Lib.hid (belowS hbn HB1.out)
 clear hb2 hbn HD K7 K1s HM1 HB1
 have HF := Lib.hid fixed_calls
 cases is
 ·go_wp2_with (first | refine alC rfl rfl ?_ | refine stN rfl _ _ rfl _ rfl rfl zs hld rfl ?_ | (go_at_call 11; refine hold_ ?_))
  intro _
  refine (HF.out _).mono ?_
  rintro e w11 ⟨rfl, hb11⟩
  have HB11 := Lib.hid (belowS hb11 HB3.out)
  clear hb11 HB3
  go_wp2
  go_ret
  exact ⟨rfl, HB11.out⟩
 obtain ⟨v, hv, hen, hde⟩ := enc_dec op rd a b m (does_right _ _ _ _ _ _ _ HT.out)
 have hst := plain_step (z.c.set 32 (P : Int)) hlc f op rd a b m d HT.out v hv hde P hP1 HCP.out hP4
 have HST := Lib.hid hst
 have HEN := Lib.hid hen
 have x0 := cellOf K1n.out 0
 have x1 := cellOf K1n.out 1
 have x2 := cellOf K1n.out 2
 have x3 := cellOf K1n.out 3
 have x4 := cellOf K1n.out 4
 simp at x0 x1 x2 x3 x4
 clear hst hen hde HT
 go_wp2_with (first | refine alC rfl rfl ?_ | refine stN rfl _ _ rfl _ rfl rfl zs hld rfl ?_ | (go_at_call 17; refine hold_ ?_))
 intro _
 obtain ⟨g8, hg8⟩ : ∃ g8, g8 = w2.heap.size := ⟨_, rfl⟩
 clear x0 x1 x2 x3 x4
 generalize (w2.alloc (.cells (cv d) 25)) = w3 at *
 rw [← hg8] at hz3 K8 hz2 ⊢
 clear hg8
 refine (Q.whetstoneref02_Encode.calls 200 op rd a b m (v : Int) 0 w3 HEN.out).mono ?_
 rintro e w4 ⟨rfl, hb4⟩
 have hz4 := hb4.size
 have K7 := Lib.hid ((hb4.block g7 (by omega)).trans K7n.out)
 have K8n := Lib.hid ((hb4.block g8 (by omega)).trans K8.out)
 have HM4 := Lib.hid (HM3.out.below hb4)
 have HB4 := Lib.hid (belowS hb4 HB3.out)
 have x7 : w4.cell? ⟨g7, 32, none⟩ = some (.int .u32 (P : Int)) := (cellC K7.out hlc 32 (by omega)).trans (by rw [HCP.out])
 clear hb4 HEN K7n K1n K8 HM3 HB3
 go_wp2_with (go_at_call 18; refine hold_ ?_)
 intro _
 refine (Mm.Store_at HM4.out P 4 v _ _ _ rfl rfl rfl (by omega) hP1 hv (Or.inr (Or.inr rfl))).mono ?_
 rintro e w5 ⟨rfl, hm5, hg5⟩
 have hz5 := hg5.size
 generalize Mm.putn f P (fun j => v / 256 ^ j % 256) 4 = f2 at *
 have HM5 := Lib.hid hm5
 have K75 := Lib.hid ((hg5.block g7 (by omega) (fun e => by injection e with e; omega)).trans K7.out)
 have K85 := Lib.hid ((hg5.block g8 (by omega) (fun e => by injection e with e; omega)).trans K8n.out)
 have HB5 := Lib.hid (HB4.out.trans ⟨hg5.os, hg5.tape, hg5.output, hg5.size, fun k hk => hg5.block k (by omega) (fun e => by injection e with e; omega)⟩)
 clear hg5 hm5 K7 K8n HM4 HB4 x7 hv hP1 hP4
 go_wp2_with (go_at_call 14; refine hold_ ?_)
 intro _
 refine (Mm.Cells_calls p bl (n + 4) f2 w5 HM5.out (by omega)).mono ?_
 rintro e w6 ⟨v1, l1, rfl, hrep, hlen, hown, _, hb⟩
 have HM6 := Lib.hid (HM5.out.below hb)
 have K76 := Lib.hid ((hb.block g7 (by omega)).trans K75.out)
 have K86 := Lib.hid ((hb.block g8 (by omega)).trans K85.out)
 have HB6 := Lib.hid (belowS hb HB5.out)
 have HO6 := Lib.hid hown
 have HREP := Lib.hid hrep
 have hz6 : w5.heap.size ≤ w6.heap.size := hb.size
 have hlen2 : l1.length ≤ 164 := by omega
 clear hb HM5 K75 K85 HB5 hown hrep hlen
 have hs := Step_calls (z.c.set 32 (P : Int)) hcw p bl (n + 4) f2 w6 HM6.out (by omega)
 rw [HST.out] at hs
 simp only at hs
 have HS := Lib.hid hs
 clear hs HST
 go_wp2_with (first | refine ldC rfl _ rfl _ rfl _ (0, 0) K76.out hlc ?_ | (go_at_call 15; refine hold_ ?_))
 intro _
 refine HS.out.mono ?_
 rintro e w7 ⟨rfl, n2, hn2, hm, hg⟩
 have hz7' : w6.heap.size ≤ w7.heap.size := hg.size
 have hbw : Below w7.heap.size w7 (w7.alloc (.cells (cv d) 25)) := (Below.refl _ w7).alloc (Nat.le_refl _) _
 have K8x := Lib.hid ((hbw.block g8 (by omega)).trans ((hg.block g8 (by omega) (fun e => by injection e with e; omega)).trans K86.out))
 have K13 := Lib.hid (heap_alloc_new w7 (.cells (cv d) 25))
 have HM8 := Lib.hid (hm.below hbw)
 have ho7 : Mm.OwnC w7 w5.heap.size v1 l1 := World.ownsRow.kept HO6.out hg (by
   cases hv : v1.ownBlock with
   | none => exact Or.inl rfl
   | some k =>
    refine Or.inr (fun e => ?_)
    have := (World.ownsRow.lt HO6.out k hv).1
    injection e with e
    omega)
 have HO8 := Lib.hid (ho7.below hbw)
 have HB8 := Lib.hid (belowS hbw (HB6.out.trans ⟨hg.os, hg.tape, hg.output, hg.size, fun k hk => hg.block k (by omega) (fun e => by injection e with e; omega)⟩))
 have hz8 : (w7.alloc (.cells (cv d) 25)).heap.size = w7.heap.size + 1 := by simp
 clear hg hm hbw ho7 K76 K86 HM6 HB6 HO6 HS
 have heq := fun w => eqB d hld w
 go_wp2_with (first | refine alC rfl rfl ?_ | refine stN rfl _ _ rfl _ rfl rfl zs hld rfl ?_ | refine ldCw rfl _ rfl _ rfl _ (0, 0) K8x.out hld ?_ | refine ldCw rfl _ rfl _ rfl _ (0, 0) K13.out hld ?_ | (go_at_call 14; refine hold_ ?_))
 intro _
 obtain ⟨g13, hg13⟩ : ∃ g13, g13 = w7.heap.size := ⟨_, rfl⟩
 generalize w7.alloc (.cells (cv d) 25) = w8 at *
 rw [← hg13] at hz8 hz7' K13 ⊢
 clear hg13
 refine (Mm.Cells_calls p bl n2 f2 w8 HM8.out (by omega)).mono ?_
 rintro e w9 ⟨v2, l2, rfl, hrep2, hlen3, hown2, _, hb9⟩
 have heql : l2 = l1 := hrep2.unique HREP.out
 have hs9 := Mm.Same_calls w8.heap.size w5.heap.size v2 v1 l2 l1 w9 hown2 (HO8.out.below hb9) (by omega) (by omega)
 rw [heql, decide_eq_true rfl] at hs9
 have HS9 := Lib.hid hs9
 have HB9 := Lib.hid (belowS hb9 HB8.out)
 clear hs9 heql hrep2 hlen3 hown2 hb9 HM8 HO8 HB8 HREP K8x K13
 go_wp2_with (go_at_call 16; refine hold_ ?_)
 intro _
 refine HS9.out.mono ?_
 rintro e w10 ⟨rfl, nd, rfl⟩
 have HB10 := Lib.hid (belowS (PrintWords.Drawn0.below ⟨⟨nd, rfl⟩⟩) HB9.out)
 clear HS9 HB9
 generalize w9.drewN nd = w12 at *
 go_wp2_with (go_at_call 11; refine hold_ ?_)
 intro _
 refine (HF.out _).mono ?_
 rintro e w11 ⟨rfl, hb11⟩
 have HB11 := Lib.hid (belowS hb11 HB10.out)
 clear hb11 HB10
 go_wp2
 go_ret
 exact ⟨rfl, HB11.out⟩
end Go.Proofs.Ytononmcodecmaaa.Cp
end
