import Derived.Test.YtononmcodecmaaaJKT
import Derived.Test.YtononmcodecmaaaJMO
import Derived.Test.YtononmcodecmaaaJOP
import Derived.OpenShut
import Derived.WideShapes
import Derived.ProofKit
import Derived.ChangeKeysEq
import Derived.BigFrame
import Derived.Deep.WholeRow
import Derived.Test.YtononmcodecmaaaJLA
import Derived.Test.YtononmcodecmaaaJQx
import Derived.WalkKit
import Derived.KernelRfl
import Derived.Below
import Derived.Outline
import Derived.LoopTactic
import Derived.Laws.BitsLemmas
import Derived.Laws.BitsAllLaws
import Derived.Deep.LoopGhost
import Derived.Lib.Hide
import Derived.Deep.QuietTactic
import Derived.BigQuiet
import Derived.Deep.Draws
import Derived.Laws.StructEq
import Derived.Deep.Slices
import Derived.Deep.Fields
import Derived.ChangeSame
import Derived.Deep.CutBlock
import Derived.Deep.DeepCutAuto
import Derived.Deep.RegionHeld3
import Derived.StillTailTactics
import Derived.WalkSmall
import Derived.OwnWalk
import Derived.Laws.OwnMore
import Derived.Laws.BytesArg
import Derived.Laws.MakeOwn
import Derived.Laws.Tables
import Derived.Laws.Rows
import Derived.Laws.World
import Derived.Test.YtononmcodecmaaaJKR
import Derived.Test.YtononmcodecmaaaJLB
import Derived.SizedLaws
section
/- Layer 4: the machine (part KU). -/
namespace Go.Proofs.Ytononmcodecmaaa.Cp
open Go.RowKit Go.Maps Go.Proofs Go.Proofs.YtononmcodecmaaaW Go.Proofs.YtononmcodecmaaaW.PrintWords
set_option maxRecDepth 100000
set_option linter.unusedVariables false
set_option linter.unusedSimpArgs false
attribute [local go_sem] cv_set cv_at cv_size
theorem wv_at (z : Wd) (hl : z.c.length = 33) : (wv z)[33]? = some (.int .u32 z.A) ∧ (wv z)[34]? = some (.int .u32 z.B) ∧ (wv z)[35]? = some (.string z.S) ∧ (wv z)[36]? = some (.string z.T) ∧ (wv z)[37]? = some (.slice z.an z.ans.length z.ac) ∧ (wv z)[38]? = some (.int .i64 z.fuel) := by
 simp [wv, List.getElem?_append, hl]
theorem wv_c (z : Wd) (hl : z.c.length = 33) (i : Nat) (hi : i < 33) : (wv z)[i]? = some (.int .u32 (reg z.c i)) := by
 simp [wv, List.getElem?_append, hl, hi, reg, List.getD_eq_getElem?_getD]
set_option maxHeartbeats 2000000 in
theorem Laid_calls (z : Wd) (w : World) (hz : WdOk w z) : Calls Try.prog 12 #[.agg (wv z)] w fun e w' => ∃ p b q n f l, e = .returned (.tuple #[.pointer (some ⟨p, 0, none⟩), .pointer (some ⟨q, 0, none⟩)]) ∧ n ≤ 160 ∧ Mm.Two w w' p b q n f l := by
 have hl := hz.wc.len
 have HZ := Lib.hid hz
 go_enter Try.func12, Try.ntmps12
 go_wp2_with (go_at_call 28; refine hold_ ?_)
 intro _
 refine (Mm.New_calls _).mono ?_
 rintro e wa ⟨rfl, hm, hg⟩
 have k0 : wa.heap[w.heap.size]? = some (.cells (wv z) 34 (0, 0)) := (hg.block _ (by simp) (fun e => by cases e)).trans (heap_alloc_new _ _)
 have hB : Below w.heap.size w wa := ((Below.refl _ w).alloc (Nat.le_refl _) _).trans ⟨hg.os, hg.tape, hg.output, hg.size, fun k hk => hg.block k (by simp; omega) (fun e => by cases e)⟩
 have hza : w.heap.size + 1 ≤ wa.heap.size := by have := hg.size; simpa using this
 obtain ⟨bl, hbl⟩ : ∃ bl, bl = (w.alloc (.cells (wv z) 34)).heap.size := ⟨_, rfl⟩
 obtain ⟨p, hp⟩ : ∃ p, p = (w.alloc (.cells (wv z) 34)).heap.size + 1 := ⟨_, rfl⟩
 rw [← hp, ← hbl] at hm
 rw [← hp]
 have hblw : w.heap.size < bl := by rw [hbl]; simp
 have hpw : w.heap.size ≤ p := by rw [hp]; simp; omega
 clear hg hp hbl
 have HM := Lib.hid hm
 have K0 := Lib.hid k0
 have HB := Lib.hid hB
 clear hm k0 hB
 go_wp2_with (go_at_call 29; refine hold_ ?_)
 intro _
 refine (Mm.rNew_calls wa).mono ?_
 rintro e wb ⟨rfl, hr, hg⟩
 have hb0 : Below wa.heap.size wa wb := ⟨hg.os, hg.tape, hg.output, hg.size, fun k hk => hg.block k hk (fun e => by cases e)⟩
 obtain ⟨q, hq⟩ : ∃ q, q = wa.heap.size := ⟨_, rfl⟩
 have T0 := Aside0.mk (⟨HM.out.below hb0, hr, by omega, by omega, belowS hb0 HB.out⟩ : Mm.Two w wb p bl wa.heap.size 0 (fun _ => 0) [])
 have K1 := Lib.hid ((hb0.block w.heap.size (by omega)).trans K0.out)
 have hzb : w.heap.size + 1 ≤ wb.heap.size := Nat.le_trans hza hb0.size
 rw [← hq] at T0 ⊢
 have hqw : w.heap.size < q := by omega
 clear hr hg hb0 HM K0 HB hza hq
 obtain ⟨v33, v34, v35, v36, v37, v38⟩ := wv_at z hl
 obtain ⟨An, hAn⟩ : ∃ An : Nat, z.A = (An : Int) := ⟨z.A.toNat, by have := hz.hA; omega⟩
 have hA2 : An < 4294967296 := by have := hz.hA; omega
 obtain ⟨Bn, hBn⟩ : ∃ Bn : Nat, z.B = (Bn : Int) := ⟨z.B.toNat, by have := hz.hB; omega⟩
 have hB2 : Bn < 4294967296 := by have := hz.hB; omega
 have hcS := Mm.cut_le z.S 120
 have hcT := Mm.cut_le z.T 40
 obtain ⟨S1, hS1⟩ : ∃ S1, S1 = z.S.extract 0 (min (z.S.size : Int) 120).toNat := ⟨_, rfl⟩
 obtain ⟨T1, hT1⟩ : ∃ T1, T1 = z.T.extract 0 (min (z.T.size : Int) 40).toNat := ⟨_, rfl⟩
 have hcS : S1.size ≤ 120 := by rw [hS1]; exact hcS
 have hcT : T1.size ≤ 40 := by rw [hT1]; exact hcT
 have HS1 := Lib.hid hS1
 have HT1 := Lib.hid hT1
 clear hS1 hT1
 have mS : 0 ≤ min (z.S.size : Int) 120 ∧ min (z.S.size : Int) 120 ≤ (z.S.size : Int) := by omega
 have mT : 0 ≤ min (z.T.size : Int) 40 ∧ min (z.T.size : Int) 40 ≤ (z.T.size : Int) := by omega
 have V33 := Lib.hid v33
 have V34 := Lib.hid v34
 have V35 := Lib.hid v35
 have V36 := Lib.hid v36
 clear v33 v34 v35 v36 v37 v38 hz
 rw [hAn] at V33
 rw [hBn] at V34
 clear hAn hBn
 have xa := (cellOf K1.out 33).trans V33.out
 have xs := (cellOf K1.out 35).trans V35.out
 have hzq : w.heap.size < wb.heap.size := by omega
 go_wp2
 refine wp_region_held_drew (S := fun w' => w'.cell? ⟨w.heap.size, 33, none⟩ = some (.int .u32 An) ∧ w'.cell? ⟨w.heap.size, 35, none⟩ = some (.string z.S)) (by kernel_rfl) ⟨xa, xs⟩ (fun hHeld => ?_)
 refine rh_take (i := 0) (k := 12) (v := ?_) rfl rfl (by kernel_rfl) (by kernel_rfl) (by kernel_rfl) (fun _ _ _ h => h) (Or.inl ⟨by rfl, ?_⟩) hHeld ?_
 rotate_left
 ·(intro w hSw; obtain ⟨s0, s1⟩ := hSw; go_simp; try with_reducible rfl)
 simp only [Act.put, List.setIfInBounds_toArray, List.set_cons_zero, List.set_cons_succ]
 refine rh_take (i := 1) (k := 13) (v := ?_) rfl rfl (by kernel_rfl) (by kernel_rfl) (by kernel_rfl) (fun _ _ _ h => h) (Or.inl ⟨by rfl, ?_⟩) hHeld ?_
 rotate_left
 ·(intro w hSw; obtain ⟨s0, s1⟩ := hSw; go_simp; try with_reducible rfl)
 simp only [Act.put, List.setIfInBounds_toArray, List.set_cons_zero, List.set_cons_succ]
 refine rh_take (i := 2) (k := 14) (v := ?_) rfl rfl (by kernel_rfl) (by kernel_rfl) (by kernel_rfl) (fun _ _ _ h => h) (Or.inl ⟨by rfl, ?_⟩) hHeld ?_
 rotate_left
 ·(intro w hSw; obtain ⟨s0, s1⟩ := hSw; go_simp; try with_reducible rfl)
 simp only [Act.put, List.setIfInBounds_toArray, List.set_cons_zero, List.set_cons_succ]
 refine rh_take (i := 3) (k := 15) (v := ?_) rfl rfl (by kernel_rfl) (by kernel_rfl) (by kernel_rfl) (fun _ _ _ h => h) (Or.inl ⟨by rfl, ?_⟩) hHeld ?_
 rotate_left
 ·(intro w hSw; obtain ⟨s0, s1⟩ := hSw; go_simp; try with_reducible rfl)
 simp only [Act.put, List.setIfInBounds_toArray, List.set_cons_zero, List.set_cons_succ]
 refine rh_take (i := 4) (k := 16) (v := ?_) rfl rfl (by kernel_rfl) (by kernel_rfl) (by kernel_rfl) (fun _ _ _ h => h) (Or.inl ⟨by rfl, ?_⟩) hHeld ?_
 rotate_left
 ·(intro w hSw; obtain ⟨s0, s1⟩ := hSw; go_simp; try with_reducible rfl)
 simp only [Act.put, List.setIfInBounds_toArray, List.set_cons_zero, List.set_cons_succ]
 refine rh_take (i := 5) (k := 17) (v := ?_) rfl rfl (by kernel_rfl) (by kernel_rfl) (by kernel_rfl) (fun _ _ _ h => h) (Or.inl ⟨by rfl, ?_⟩) hHeld ?_
 rotate_left
 ·(intro w hSw; obtain ⟨s0, s1⟩ := hSw; go_simp; try with_reducible rfl)
 simp only [Act.put, List.setIfInBounds_toArray, List.set_cons_zero, List.set_cons_succ]
 refine rh_take (i := 6) (k := 18) (v := ?_) rfl rfl (by kernel_rfl) (by kernel_rfl) (by kernel_rfl) (fun _ _ _ h => h) (Or.inl ⟨by rfl, ?_⟩) hHeld ?_
 rotate_left
 ·(intro w hSw; obtain ⟨s0, s1⟩ := hSw; go_simp; try with_reducible rfl)
 simp only [Act.put, List.setIfInBounds_toArray, List.set_cons_zero, List.set_cons_succ]
 refine rh_take (i := 7) (k := 19) (v := ?_) rfl rfl (by kernel_rfl) (by kernel_rfl) (by kernel_rfl) (fun _ _ _ h => h) (Or.inl ⟨by rfl, ?_⟩) hHeld ?_
 rotate_left
 ·(intro w hSw; obtain ⟨s0, s1⟩ := hSw; go_simp; try with_reducible rfl)
 simp only [Act.put, List.setIfInBounds_toArray, List.set_cons_zero, List.set_cons_succ]
 refine rh_take (i := 8) (k := 20) (v := ?_) rfl rfl (by kernel_rfl) (by kernel_rfl) (by kernel_rfl) (fun _ _ _ h => h) (Or.inl ⟨by rfl, ?_⟩) hHeld ?_
 rotate_left
 ·(intro w hSw; obtain ⟨s0, s1⟩ := hSw; go_simp; try with_reducible rfl)
 simp only [Act.put, List.setIfInBounds_toArray, List.set_cons_zero, List.set_cons_succ]
 refine rh_take (i := 9) (k := 21) (v := ?_) rfl rfl (by kernel_rfl) (by kernel_rfl) (by kernel_rfl) (fun _ _ _ h => h) (Or.inl ⟨by rfl, ?_⟩) hHeld ?_
 rotate_left
 ·(intro w hSw; obtain ⟨s0, s1⟩ := hSw; go_simp; try with_reducible rfl)
 simp only [Act.put, List.setIfInBounds_toArray, List.set_cons_zero, List.set_cons_succ]
 rw [← HS1.out]
 refine wpAnyH_ready (rs := [10]) (by kernel_rfl) (by simp) ?_
 refine AllReadyH.cons (i := 10) rfl (fun K hK => ?_) AllReadyH.nil
 go_simp
 refine (Mm.Put_at (T0.out.mem.below (Below.refl _ wb).drew) An _ S1 rfl (by omega) hA2).mono ?_
 rintro e wc ⟨rfl, hm, hg⟩
 have M1 := Lib.hid hm
 have R1 := Lib.hid ((T0.out.ref.below (Below.refl _ wb).drew).other (T0.out.mem.below (Below.refl _ wb).drew) hg)
 have hbe : Below w.heap.size w wc := T0.out.bel.trans ((Below.refl _ wb).drew.trans ⟨hg.os, hg.tape, hg.output, hg.size, fun k hk => hg.block k (by show k < wb.heap.size; omega) (fun e => by injection e with e; omega)⟩)
 have B1 := Lib.hid hbe
 have k1 : wc.heap[w.heap.size]? = some (.cells (wv z) 34 (0, 0)) := (hg.block w.heap.size (by show w.heap.size < wb.heap.size; omega) (fun e => by injection e with e; omega)).trans K1.out
 have xa' := (cellOf k1 33).trans V33.out
 have xs' := (cellOf k1 35).trans V35.out
 have hzwc : w.heap.size + 1 ≤ wc.heap.size := Nat.le_trans (show w.heap.size + 1 ≤ wb.heap.size by omega) hg.size
 go_wp2_with fail
 refine hK.out _ _ ⟨xa', xs'⟩ (fun hHeld => ?_)
 clear hK K
 try simp only [Act.put, List.setIfInBounds_toArray, List.set_cons_zero, List.set_cons_succ]
 refine wpAnyH_done (by kernel_rfl) ?_ _
 have K1' := Lib.hid k1
 clear hHeld hg k1 xa xs xa' xs' hzq K1 hm hbe T0
 have K1 := K1'
 clear K1'
 have xa := (cellOf K1.out 33).trans V33.out
 have xs := (cellOf K1.out 35).trans V35.out
 have hzq : w.heap.size < wc.heap.size := by omega
 go_wp2
 refine wp_region_held_drew (S := fun w' => w'.cell? ⟨w.heap.size, 33, none⟩ = some (.int .u32 An) ∧ w'.cell? ⟨w.heap.size, 35, none⟩ = some (.string z.S)) (by kernel_rfl) ⟨xa, xs⟩ (fun hHeld => ?_)
 refine rh_take (i := 0) (k := 23) (v := ?_) rfl rfl (by kernel_rfl) (by kernel_rfl) (by kernel_rfl) (fun _ _ _ h => h) (Or.inl ⟨by rfl, ?_⟩) hHeld ?_
 rotate_left
 ·(intro w hSw; obtain ⟨s0, s1⟩ := hSw; go_simp; try with_reducible rfl)
 simp only [Act.put, List.setIfInBounds_toArray, List.set_cons_zero, List.set_cons_succ]
 refine rh_take (i := 1) (k := 24) (v := ?_) rfl rfl (by kernel_rfl) (by kernel_rfl) (by kernel_rfl) (fun _ _ _ h => h) (Or.inl ⟨by rfl, ?_⟩) hHeld ?_
 rotate_left
 ·(intro w hSw; obtain ⟨s0, s1⟩ := hSw; go_simp; try with_reducible rfl)
 simp only [Act.put, List.setIfInBounds_toArray, List.set_cons_zero, List.set_cons_succ]
 refine rh_take (i := 2) (k := 25) (v := ?_) rfl rfl (by kernel_rfl) (by kernel_rfl) (by kernel_rfl) (fun _ _ _ h => h) (Or.inl ⟨by rfl, ?_⟩) hHeld ?_
 rotate_left
 ·(intro w hSw; obtain ⟨s0, s1⟩ := hSw; go_simp; try with_reducible rfl)
 simp only [Act.put, List.setIfInBounds_toArray, List.set_cons_zero, List.set_cons_succ]
 refine rh_take (i := 3) (k := 26) (v := ?_) rfl rfl (by kernel_rfl) (by kernel_rfl) (by kernel_rfl) (fun _ _ _ h => h) (Or.inl ⟨by rfl, ?_⟩) hHeld ?_
 rotate_left
 ·(intro w hSw; obtain ⟨s0, s1⟩ := hSw; go_simp; try with_reducible rfl)
 simp only [Act.put, List.setIfInBounds_toArray, List.set_cons_zero, List.set_cons_succ]
 refine rh_take (i := 4) (k := 27) (v := ?_) rfl rfl (by kernel_rfl) (by kernel_rfl) (by kernel_rfl) (fun _ _ _ h => h) (Or.inl ⟨by rfl, ?_⟩) hHeld ?_
 rotate_left
 ·(intro w hSw; obtain ⟨s0, s1⟩ := hSw; go_simp; try with_reducible rfl)
 simp only [Act.put, List.setIfInBounds_toArray, List.set_cons_zero, List.set_cons_succ]
 refine rh_take (i := 5) (k := 28) (v := ?_) rfl rfl (by kernel_rfl) (by kernel_rfl) (by kernel_rfl) (fun _ _ _ h => h) (Or.inl ⟨by rfl, ?_⟩) hHeld ?_
 rotate_left
 ·(intro w hSw; obtain ⟨s0, s1⟩ := hSw; go_simp; try with_reducible rfl)
 simp only [Act.put, List.setIfInBounds_toArray, List.set_cons_zero, List.set_cons_succ]
 refine rh_take (i := 6) (k := 29) (v := ?_) rfl rfl (by kernel_rfl) (by kernel_rfl) (by kernel_rfl) (fun _ _ _ h => h) (Or.inl ⟨by rfl, ?_⟩) hHeld ?_
 rotate_left
 ·(intro w hSw; obtain ⟨s0, s1⟩ := hSw; go_simp; try with_reducible rfl)
 simp only [Act.put, List.setIfInBounds_toArray, List.set_cons_zero, List.set_cons_succ]
 refine rh_take (i := 7) (k := 30) (v := ?_) rfl rfl (by kernel_rfl) (by kernel_rfl) (by kernel_rfl) (fun _ _ _ h => h) (Or.inl ⟨by rfl, ?_⟩) hHeld ?_
 rotate_left
 ·(intro w hSw; obtain ⟨s0, s1⟩ := hSw; go_simp; try with_reducible rfl)
 simp only [Act.put, List.setIfInBounds_toArray, List.set_cons_zero, List.set_cons_succ]
 refine rh_take (i := 8) (k := 31) (v := ?_) rfl rfl (by kernel_rfl) (by kernel_rfl) (by kernel_rfl) (fun _ _ _ h => h) (Or.inl ⟨by rfl, ?_⟩) hHeld ?_
 rotate_left
 ·(intro w hSw; obtain ⟨s0, s1⟩ := hSw; go_simp; try with_reducible rfl)
 simp only [Act.put, List.setIfInBounds_toArray, List.set_cons_zero, List.set_cons_succ]
 refine rh_take (i := 9) (k := 32) (v := ?_) rfl rfl (by kernel_rfl) (by kernel_rfl) (by kernel_rfl) (fun _ _ _ h => h) (Or.inl ⟨by rfl, ?_⟩) hHeld ?_
 rotate_left
 ·(intro w hSw; obtain ⟨s0, s1⟩ := hSw; go_simp; try with_reducible rfl)
 simp only [Act.put, List.setIfInBounds_toArray, List.set_cons_zero, List.set_cons_succ]
 rw [← HS1.out]
 refine wpAnyH_ready (rs := [10]) (by kernel_rfl) (by simp) ?_
 refine AllReadyH.cons (i := 10) rfl (fun K hK => ?_) AllReadyH.nil
 go_simp
 refine (Mm.rPut_calls q _ _ _ An S1 _ (R1.out.below (Below.refl _ wc).drew) (by omega) hA2).mono ?_
 rintro e wd ⟨rfl, hrr, hg⟩
 obtain ⟨lwd, hr⟩ := hrr
 have Twd := Aside0.mk (⟨(M1.out.below (Below.refl _ wc).drew).byRef (R1.out.below (Below.refl _ wc).drew) hg, hr, by omega, by omega, B1.out.trans ((Below.refl _ wc).drew.trans ⟨hg.os, hg.tape, hg.output, hg.size, fun k hk => hg.block k (by show k < wc.heap.size; omega) (fun e => by injection e with e; omega)⟩)⟩ : Mm.Two w wd p bl q _ _ lwd)
 have k1 : wd.heap[w.heap.size]? = some (.cells (wv z) 34 (0, 0)) := (hg.block w.heap.size (by show w.heap.size < wc.heap.size; omega) (fun e => by injection e with e; omega)).trans K1.out
 have xa' := (cellOf k1 33).trans V33.out
 have xs' := (cellOf k1 35).trans V35.out
 have hzwd : w.heap.size + 1 ≤ wd.heap.size := Nat.le_trans (show w.heap.size + 1 ≤ wc.heap.size by omega) hg.size
 go_wp2_with fail
 refine hK.out _ _ ⟨xa', xs'⟩ (fun hHeld => ?_)
 clear hK K
 try simp only [Act.put, List.setIfInBounds_toArray, List.set_cons_zero, List.set_cons_succ]
 refine wpAnyH_done (by kernel_rfl) ?_ _
 have K1' := Lib.hid k1
 clear hHeld hg k1 xa xs xa' xs' hzq K1 hr M1 R1 B1
 have K1 := K1'
 clear K1'
 have xa := (cellOf K1.out 34).trans V34.out
 have xs := (cellOf K1.out 36).trans V36.out
 have hzq : w.heap.size < wd.heap.size := by omega
 go_wp2
 refine wp_region_held_drew (S := fun w' => w'.cell? ⟨w.heap.size, 34, none⟩ = some (.int .u32 Bn) ∧ w'.cell? ⟨w.heap.size, 36, none⟩ = some (.string z.T)) (by kernel_rfl) ⟨xa, xs⟩ (fun hHeld => ?_)
 refine rh_take (i := 0) (k := 34) (v := ?_) rfl rfl (by kernel_rfl) (by kernel_rfl) (by kernel_rfl) (fun _ _ _ h => h) (Or.inl ⟨by rfl, ?_⟩) hHeld ?_
 rotate_left
 ·(intro w hSw; obtain ⟨s0, s1⟩ := hSw; go_simp; try with_reducible rfl)
 simp only [Act.put, List.setIfInBounds_toArray, List.set_cons_zero, List.set_cons_succ]
 refine rh_take (i := 1) (k := 35) (v := ?_) rfl rfl (by kernel_rfl) (by kernel_rfl) (by kernel_rfl) (fun _ _ _ h => h) (Or.inl ⟨by rfl, ?_⟩) hHeld ?_
 rotate_left
 ·(intro w hSw; obtain ⟨s0, s1⟩ := hSw; go_simp; try with_reducible rfl)
 simp only [Act.put, List.setIfInBounds_toArray, List.set_cons_zero, List.set_cons_succ]
 refine rh_take (i := 2) (k := 36) (v := ?_) rfl rfl (by kernel_rfl) (by kernel_rfl) (by kernel_rfl) (fun _ _ _ h => h) (Or.inl ⟨by rfl, ?_⟩) hHeld ?_
 rotate_left
 ·(intro w hSw; obtain ⟨s0, s1⟩ := hSw; go_simp; try with_reducible rfl)
 simp only [Act.put, List.setIfInBounds_toArray, List.set_cons_zero, List.set_cons_succ]
 refine rh_take (i := 3) (k := 37) (v := ?_) rfl rfl (by kernel_rfl) (by kernel_rfl) (by kernel_rfl) (fun _ _ _ h => h) (Or.inl ⟨by rfl, ?_⟩) hHeld ?_
 rotate_left
 ·(intro w hSw; obtain ⟨s0, s1⟩ := hSw; go_simp; try with_reducible rfl)
 simp only [Act.put, List.setIfInBounds_toArray, List.set_cons_zero, List.set_cons_succ]
 refine rh_take (i := 4) (k := 38) (v := ?_) rfl rfl (by kernel_rfl) (by kernel_rfl) (by kernel_rfl) (fun _ _ _ h => h) (Or.inl ⟨by rfl, ?_⟩) hHeld ?_
 rotate_left
 ·(intro w hSw; obtain ⟨s0, s1⟩ := hSw; go_simp; try with_reducible rfl)
 simp only [Act.put, List.setIfInBounds_toArray, List.set_cons_zero, List.set_cons_succ]
 refine rh_take (i := 5) (k := 39) (v := ?_) rfl rfl (by kernel_rfl) (by kernel_rfl) (by kernel_rfl) (fun _ _ _ h => h) (Or.inl ⟨by rfl, ?_⟩) hHeld ?_
 rotate_left
 ·(intro w hSw; obtain ⟨s0, s1⟩ := hSw; go_simp; try with_reducible rfl)
 simp only [Act.put, List.setIfInBounds_toArray, List.set_cons_zero, List.set_cons_succ]
 refine rh_take (i := 6) (k := 40) (v := ?_) rfl rfl (by kernel_rfl) (by kernel_rfl) (by kernel_rfl) (fun _ _ _ h => h) (Or.inl ⟨by rfl, ?_⟩) hHeld ?_
 rotate_left
 ·(intro w hSw; obtain ⟨s0, s1⟩ := hSw; go_simp; try with_reducible rfl)
 simp only [Act.put, List.setIfInBounds_toArray, List.set_cons_zero, List.set_cons_succ]
 refine rh_take (i := 7) (k := 41) (v := ?_) rfl rfl (by kernel_rfl) (by kernel_rfl) (by kernel_rfl) (fun _ _ _ h => h) (Or.inl ⟨by rfl, ?_⟩) hHeld ?_
 rotate_left
 ·(intro w hSw; obtain ⟨s0, s1⟩ := hSw; go_simp; try with_reducible rfl)
 simp only [Act.put, List.setIfInBounds_toArray, List.set_cons_zero, List.set_cons_succ]
 refine rh_take (i := 8) (k := 42) (v := ?_) rfl rfl (by kernel_rfl) (by kernel_rfl) (by kernel_rfl) (fun _ _ _ h => h) (Or.inl ⟨by rfl, ?_⟩) hHeld ?_
 rotate_left
 ·(intro w hSw; obtain ⟨s0, s1⟩ := hSw; go_simp; try with_reducible rfl)
 simp only [Act.put, List.setIfInBounds_toArray, List.set_cons_zero, List.set_cons_succ]
 refine rh_take (i := 9) (k := 43) (v := ?_) rfl rfl (by kernel_rfl) (by kernel_rfl) (by kernel_rfl) (fun _ _ _ h => h) (Or.inl ⟨by rfl, ?_⟩) hHeld ?_
 rotate_left
 ·(intro w hSw; obtain ⟨s0, s1⟩ := hSw; go_simp; try with_reducible rfl)
 simp only [Act.put, List.setIfInBounds_toArray, List.set_cons_zero, List.set_cons_succ]
 rw [← HT1.out]
 refine wpAnyH_ready (rs := [10]) (by kernel_rfl) (by simp) ?_
 refine AllReadyH.cons (i := 10) rfl (fun K hK => ?_) AllReadyH.nil
 go_simp
 refine (Mm.Put_at (Twd.out.mem.below (Below.refl _ wd).drew) Bn _ T1 rfl (by omega) hB2).mono ?_
 rintro e we ⟨rfl, hm, hg⟩
 have M1 := Lib.hid hm
 have R1 := Lib.hid ((Twd.out.ref.below (Below.refl _ wd).drew).other (Twd.out.mem.below (Below.refl _ wd).drew) hg)
 have hbe : Below w.heap.size w we := Twd.out.bel.trans ((Below.refl _ wd).drew.trans ⟨hg.os, hg.tape, hg.output, hg.size, fun k hk => hg.block k (by show k < wd.heap.size; omega) (fun e => by injection e with e; omega)⟩)
 have B1 := Lib.hid hbe
 have k1 : we.heap[w.heap.size]? = some (.cells (wv z) 34 (0, 0)) := (hg.block w.heap.size (by show w.heap.size < wd.heap.size; omega) (fun e => by injection e with e; omega)).trans K1.out
 have xa' := (cellOf k1 34).trans V34.out
 have xs' := (cellOf k1 36).trans V36.out
 have hzwe : w.heap.size + 1 ≤ we.heap.size := Nat.le_trans (show w.heap.size + 1 ≤ wd.heap.size by omega) hg.size
 go_wp2_with fail
 refine hK.out _ _ ⟨xa', xs'⟩ (fun hHeld => ?_)
 clear hK K
 try simp only [Act.put, List.setIfInBounds_toArray, List.set_cons_zero, List.set_cons_succ]
 refine wpAnyH_done (by kernel_rfl) ?_ _
 have K1' := Lib.hid k1
 clear hHeld hg k1 xa xs xa' xs' hzq K1 hm hbe Twd
 have K1 := K1'
 clear K1'
 have xa := (cellOf K1.out 34).trans V34.out
 have xs := (cellOf K1.out 36).trans V36.out
 have hzq : w.heap.size < we.heap.size := by omega
 go_wp2
 refine wp_region_held_drew (S := fun w' => w'.cell? ⟨w.heap.size, 34, none⟩ = some (.int .u32 Bn) ∧ w'.cell? ⟨w.heap.size, 36, none⟩ = some (.string z.T)) (by kernel_rfl) ⟨xa, xs⟩ (fun hHeld => ?_)
 refine rh_take (i := 0) (k := 45) (v := ?_) rfl rfl (by kernel_rfl) (by kernel_rfl) (by kernel_rfl) (fun _ _ _ h => h) (Or.inl ⟨by rfl, ?_⟩) hHeld ?_
 rotate_left
 ·(intro w hSw; obtain ⟨s0, s1⟩ := hSw; go_simp; try with_reducible rfl)
 simp only [Act.put, List.setIfInBounds_toArray, List.set_cons_zero, List.set_cons_succ]
 refine rh_take (i := 1) (k := 46) (v := ?_) rfl rfl (by kernel_rfl) (by kernel_rfl) (by kernel_rfl) (fun _ _ _ h => h) (Or.inl ⟨by rfl, ?_⟩) hHeld ?_
 rotate_left
 ·(intro w hSw; obtain ⟨s0, s1⟩ := hSw; go_simp; try with_reducible rfl)
 simp only [Act.put, List.setIfInBounds_toArray, List.set_cons_zero, List.set_cons_succ]
 refine rh_take (i := 2) (k := 47) (v := ?_) rfl rfl (by kernel_rfl) (by kernel_rfl) (by kernel_rfl) (fun _ _ _ h => h) (Or.inl ⟨by rfl, ?_⟩) hHeld ?_
 rotate_left
 ·(intro w hSw; obtain ⟨s0, s1⟩ := hSw; go_simp; try with_reducible rfl)
 simp only [Act.put, List.setIfInBounds_toArray, List.set_cons_zero, List.set_cons_succ]
 refine rh_take (i := 3) (k := 48) (v := ?_) rfl rfl (by kernel_rfl) (by kernel_rfl) (by kernel_rfl) (fun _ _ _ h => h) (Or.inl ⟨by rfl, ?_⟩) hHeld ?_
 rotate_left
 ·(intro w hSw; obtain ⟨s0, s1⟩ := hSw; go_simp; try with_reducible rfl)
 simp only [Act.put, List.setIfInBounds_toArray, List.set_cons_zero, List.set_cons_succ]
 refine rh_take (i := 4) (k := 49) (v := ?_) rfl rfl (by kernel_rfl) (by kernel_rfl) (by kernel_rfl) (fun _ _ _ h => h) (Or.inl ⟨by rfl, ?_⟩) hHeld ?_
 rotate_left
 ·(intro w hSw; obtain ⟨s0, s1⟩ := hSw; go_simp; try with_reducible rfl)
 simp only [Act.put, List.setIfInBounds_toArray, List.set_cons_zero, List.set_cons_succ]
 refine rh_take (i := 5) (k := 50) (v := ?_) rfl rfl (by kernel_rfl) (by kernel_rfl) (by kernel_rfl) (fun _ _ _ h => h) (Or.inl ⟨by rfl, ?_⟩) hHeld ?_
 rotate_left
 ·(intro w hSw; obtain ⟨s0, s1⟩ := hSw; go_simp; try with_reducible rfl)
 simp only [Act.put, List.setIfInBounds_toArray, List.set_cons_zero, List.set_cons_succ]
 refine rh_take (i := 6) (k := 51) (v := ?_) rfl rfl (by kernel_rfl) (by kernel_rfl) (by kernel_rfl) (fun _ _ _ h => h) (Or.inl ⟨by rfl, ?_⟩) hHeld ?_
 rotate_left
 ·(intro w hSw; obtain ⟨s0, s1⟩ := hSw; go_simp; try with_reducible rfl)
 simp only [Act.put, List.setIfInBounds_toArray, List.set_cons_zero, List.set_cons_succ]
 refine rh_take (i := 7) (k := 52) (v := ?_) rfl rfl (by kernel_rfl) (by kernel_rfl) (by kernel_rfl) (fun _ _ _ h => h) (Or.inl ⟨by rfl, ?_⟩) hHeld ?_
 rotate_left
 ·(intro w hSw; obtain ⟨s0, s1⟩ := hSw; go_simp; try with_reducible rfl)
 simp only [Act.put, List.setIfInBounds_toArray, List.set_cons_zero, List.set_cons_succ]
 refine rh_take (i := 8) (k := 53) (v := ?_) rfl rfl (by kernel_rfl) (by kernel_rfl) (by kernel_rfl) (fun _ _ _ h => h) (Or.inl ⟨by rfl, ?_⟩) hHeld ?_
 rotate_left
 ·(intro w hSw; obtain ⟨s0, s1⟩ := hSw; go_simp; try with_reducible rfl)
 simp only [Act.put, List.setIfInBounds_toArray, List.set_cons_zero, List.set_cons_succ]
 refine rh_take (i := 9) (k := 54) (v := ?_) rfl rfl (by kernel_rfl) (by kernel_rfl) (by kernel_rfl) (fun _ _ _ h => h) (Or.inl ⟨by rfl, ?_⟩) hHeld ?_
 rotate_left
 ·(intro w hSw; obtain ⟨s0, s1⟩ := hSw; go_simp; try with_reducible rfl)
 simp only [Act.put, List.setIfInBounds_toArray, List.set_cons_zero, List.set_cons_succ]
 rw [← HT1.out]
 refine wpAnyH_ready (rs := [10]) (by kernel_rfl) (by simp) ?_
 refine AllReadyH.cons (i := 10) rfl (fun K hK => ?_) AllReadyH.nil
 go_simp
 refine (Mm.rPut_calls q _ _ _ Bn T1 _ (R1.out.below (Below.refl _ we).drew) (by omega) hB2).mono ?_
 rintro e wf ⟨rfl, hrr, hg⟩
 obtain ⟨lwf, hr⟩ := hrr
 have Twf := Aside0.mk (⟨(M1.out.below (Below.refl _ we).drew).byRef (R1.out.below (Below.refl _ we).drew) hg, hr, by omega, by omega, B1.out.trans ((Below.refl _ we).drew.trans ⟨hg.os, hg.tape, hg.output, hg.size, fun k hk => hg.block k (by show k < we.heap.size; omega) (fun e => by injection e with e; omega)⟩)⟩ : Mm.Two w wf p bl q _ _ lwf)
 have k1 : wf.heap[w.heap.size]? = some (.cells (wv z) 34 (0, 0)) := (hg.block w.heap.size (by show w.heap.size < we.heap.size; omega) (fun e => by injection e with e; omega)).trans K1.out
 have xa' := (cellOf k1 34).trans V34.out
 have xs' := (cellOf k1 36).trans V36.out
 have hzwf : w.heap.size + 1 ≤ wf.heap.size := Nat.le_trans (show w.heap.size + 1 ≤ we.heap.size by omega) hg.size
 go_wp2_with fail
 refine hK.out _ _ ⟨xa', xs'⟩ (fun hHeld => ?_)
 clear hK K
 try simp only [Act.put, List.setIfInBounds_toArray, List.set_cons_zero, List.set_cons_succ]
 refine wpAnyH_done (by kernel_rfl) ?_ _
 have K1' := Lib.hid k1
 clear hHeld hg k1 xa xs xa' xs' hzq K1 hr M1 R1 B1
 have K1 := K1'
 clear K1'
 go_wp2
 go_ret2
 exact ⟨p, bl, q, _, _, lwf, rfl, by omega, Twf.out⟩
end Go.Proofs.Ytononmcodecmaaa.Cp
end
section
/- Layer 4: the machine (part KV). -/
namespace Go.Proofs.Ytononmcodecmaaa.Cp
open Go.RowKit Go.Maps Go.Proofs Go.Proofs.YtononmcodecmaaaW Go.Proofs.YtononmcodecmaaaW.PrintWords
set_option maxRecDepth 100000
set_option linter.unusedVariables false
set_option linter.unusedSimpArgs false
attribute [local go_sem] cv_set cv_at cv_size
theorem accessv_end (c : List Int) (f : Nat → Nat) (op rd a b m : Int) : (accessv c f op rd a b m).2.2 = 0 ∨ (accessv c f op rd a b m).2.2 = 5 := by
 unfold accessv
 split
 ·exact Or.inr rfl
 split
 ·exact Or.inl rfl
 ·exact Or.inl rfl
theorem jumpv_end (c : List Int) (f : Nat → Nat) (op rd a b m : Int) : 0 ≤ (jumpv c f op rd a b m).2.2 ∧ (jumpv c f op rd a b m).2.2 ≤ 5 := by
 unfold jumpv
 split
 ·simp
 split
 ·simp
 split
 ·simp
 split
 ·simp
 split
 ·simp
 ·rcases accessv_end c f op rd a b m with h | h <;> omega
theorem stepw_end (c : List Int) (f : Nat → Nat) (z : Int × Int × Int × Int × Int × Int) : 0 ≤ (stepw c f z).2.2 ∧ (stepw c f z).2.2 ≤ 5 := by
 unfold stepw
 split
 ·simp
 split
 ·simp
 ·exact jumpv_end _ _ _ _ _ _ _
theorem stepv_end (c : List Int) (f : Nat → Nat) : 0 ≤ (stepv c f).2.2 ∧ (stepv c f).2.2 ≤ 5 := by
 by_cases h : reg (c.set 0 0) 32 % 4 = 0
 ·rw [stepv_w c f h]
  generalize decT (Mm.ld f (reg (c.set 0 0) 32).toNat 4) = z
  exact stepw_end _ _ _
 ·rw [stepv_m c f h]
  simp
theorem runv_facts : ∀ (k : Nat) (c : List Int) (f : Nat → Nat) (ans : List Int),
  (runv k c f ans).2.2.1.length ≤ (runv k c f ans).2.2.2.2 ∧ (runv k c f ans).2.2.1.length ≤ ans.length + 1 ∧ ((runv k c f ans).2.2.2.1 = 1 ↔ (runv k c f ans).2.2.1.length = ans.length + 1) ∧ ((runv k c f ans).2.2.2.1 = 6 → (runv k c f ans).2.2.2.2 = k) ∧ (runv k c f ans).2.2.2.2 ≤ k
 | 0, c, f, ans => by simp [runv]
 | k + 1, c, f, ans => by
  have he := stepv_end c f
  obtain ⟨z, hz⟩ : ∃ z, stepv c f = z := ⟨_, rfl⟩
  obtain ⟨d, g, e⟩ := z
  rw [hz] at he
  simp only at he
  by_cases h0 : e = 0
  ·subst h0
   rw [run_on k c f ans d g hz]
   have ih := runv_facts k d g ans
   generalize runv k d g ans = T at *
   simp only [gl, List.nil_append]
   omega
  by_cases h1 : e = 1
  ·subst h1
   cases ans with
   | nil =>
    rw [run_last k c f d g hz]
    simp
   | cons a rest =>
    rw [run_call k c f a rest d g hz]
    have ih := runv_facts k (d.set 10 a) g rest
    generalize runv k (d.set 10 a) g rest = T at *
    simp only [gl, List.cons_append, List.nil_append, List.length_cons]
    omega
  ·rw [run_stop k c f ans d g e hz h0 h1]
   simp
   omega
end Go.Proofs.Ytononmcodecmaaa.Cp
end
section
/- Layer 4: the machine (part KW). -/
namespace Go.Proofs.Ytononmcodecmaaa.Cp
open Go.RowKit Go.Maps Go.Proofs Go.Proofs.YtononmcodecmaaaW Go.Proofs.YtononmcodecmaaaW.PrintWords
set_option maxRecDepth 100000
set_option linter.unusedVariables false
set_option linter.unusedSimpArgs false
attribute [local go_sem] cv_set cv_at cv_size
theorem wv_size (z : Wd) (hl : z.c.length = 33) : (wv z).size = 39 := by simp [wv, hl]
theorem infoW : (Try.prog.info? 34).map (·.size) = some 39 := by kernel_rfl
theorem ldW {ops : Array Oper} {rest : List Oper} {o : Oper} {a : Act} {w : World} {Q : Exit → Act → World → Prop} (hgd : o.guard = none) (x : Operand) (ho : o.op = .load 34 x)
  (g : Nat) (hx : a.eval x = .pointer (some ⟨g, 0, none⟩)) (z : Wd) (fr : Nat × Nat) (hg : w.heap[g]? = some (.cells (wv z) 34 fr)) (hc : z.c.length = 33)
  (h : wpList Try.prog ops Q rest (a.put o.dst (.agg (wv z))) w) : wpList Try.prog ops Q (o :: rest) a w :=
 wpList_load_row hgd _ x ho g hx _ _ fr _ hg Try.underlying34 rfl (infoW.trans (by rw [wv_size z hc])) h
theorem loadSub (w : World) (g : Nat) (c : List Int) (hcell : ∀ j, j < 33 → w.cell? ⟨g, j, none⟩ = some (.int .u32 (reg c j))) (hc : c.length = 33) : (loadVar 25 ⟨g, 0, none⟩).run Try.prog w = .ok (.agg (cv c)) w := by
 have hl : (loadCells ⟨g, 0, none⟩ (cv c).toList.length).run Try.prog w = .ok (cv c).toList.toArray w :=
  run_loadCells_list (P := Try.prog) w ⟨g, 0, none⟩ (cv c).toList (fun j v hv => by
   have hadd : (⟨g, 0, none⟩ : Addr).add j = ⟨g, j, none⟩ := by unfold Addr.add; split <;> simp_all
   have hj : j < 33 := by
    have := (List.getElem?_eq_some_iff.1 hv).1
    rw [Array.length_toList, cv_size] at this
    omega
   rw [hadd, hcell j hj]
   rw [Array.getElem?_toList, cv_get c j (by omega)] at hv
   exact hv)
 have hi := infoC
 cases hq : Try.prog.info? 25 with
 | none => simp [hq] at hi
 | some i =>
  have hs : i.size = 33 := by simpa [hq] using hi
  have hagg : (isAgg 25).run Try.prog w = .ok true w := by
   unfold isAgg
   rw [Sem.run_bind, run_underlying Try.underlying25 w]
   simp
  simp only [Array.length_toList, Array.toArray_toList, cv_size, hc] at hl
  simp [loadVar, Sem.run_bind, hagg, sizeOf, typeInfo, hq, hs, hl]
theorem ldS {ops : Array Oper} {rest : List Oper} {o : Oper} {a : Act} {w : World} {Q : Exit → Act → World → Prop} (hgd : o.guard = none) (x : Operand) (ho : o.op = .load 25 x)
  (g : Nat) (hx : a.eval x = .pointer (some ⟨g, 0, none⟩)) (z : Wd) (t : TypeId) (fr : Nat × Nat) (hg : w.heap[g]? = some (.cells (wv z) t fr)) (hc : z.c.length = 33)
  (h : wpList Try.prog ops Q rest (a.put o.dst (.agg (cv z.c))) w) : wpList Try.prog ops Q (o :: rest) a w := by
 refine wpList_plain hgd fun K hK => ?_
 have hld := loadSub w g z.c (fun j hj => by rw [cell_of_row w g j _ t fr hg, wv_c z hc j hj]) hc
 unfold Oper.wp execOp
 simp only [ho, hx, Instr.loadAt, Instr.sureAddr, Sem.run_bind, Sem.run_pure, Result.andThen_ok, hld]
 exact hK _ _ h
theorem AnsAt.below {w w' : World} {A : Option Addr} {ans : List Int} (h : AnsAt w A ans) (hB : Below w.heap.size w w') : AnsAt w' A ans := by
 intro i hi
 obtain ⟨ad, e, hb, hc⟩ := h i hi
 refine ⟨ad, e, Nat.lt_of_lt_of_le hb hB.size, ?_⟩
 exact (World.cell?_of_block (by rw [add_block]; exact hB.block ad.block hb)).trans hc
theorem putn_lt (f : Nat → Nat) (a : Nat) (g : Nat → Nat) (hf : ∀ x, f x < 256) (hg : ∀ j, g j < 256) : ∀ k x, Mm.putn f a g k x < 256
 | 0, x => hf x
 | k + 1, x => by
  unfold Mm.putn Mm.upd
  split
  ·exact hg k
  ·exact putn_lt f a g hf hg k x
theorem accessv_lt (c : List Int) (f : Nat → Nat) (hf : ∀ x, f x < 256) (op rd a b m : Int) : ∀ x, (accessv c f op rd a b m).2.1 x < 256 := by
 unfold accessv
 split
 ·exact hf
 split
 ·exact putn_lt f _ _ hf (fun j => Nat.mod_lt _ (by omega)) _
 ·exact hf
theorem jumpv_lt (c : List Int) (f : Nat → Nat) (hf : ∀ x, f x < 256) (op rd a b m : Int) : ∀ x, (jumpv c f op rd a b m).2.1 x < 256 := by
 unfold jumpv
 split
 ·exact hf
 split
 ·exact hf
 split
 ·exact hf
 split
 ·exact hf
 split
 ·exact hf
 ·exact accessv_lt c f hf _ _ _ _ _
theorem stepw_lt (c : List Int) (f : Nat → Nat) (hf : ∀ x, f x < 256) (z : Int × Int × Int × Int × Int × Int) : ∀ x, (stepw c f z).2.1 x < 256 := by
 unfold stepw
 split
 ·exact hf
 split
 ·exact hf
 ·exact jumpv_lt c f hf _ _ _ _ _
theorem stepv_lt (c : List Int) (f : Nat → Nat) (hf : ∀ x, f x < 256) : ∀ x, (stepv c f).2.1 x < 256 := by
 by_cases h : reg (c.set 0 0) 32 % 4 = 0
 ·rw [stepv_w c f h]
  generalize decT (Mm.ld f (reg (c.set 0 0) 32).toNat 4) = z
  exact stepw_lt _ _ hf _
 ·rw [stepv_m c f h]
  exact hf
theorem runv_wc : ∀ (k : Nat) (c : List Int) (f : Nat → Nat) (ans : List Int) (_ : ∀ x, f x < 256) (_ : ∀ i, 0 ≤ ans.getD i 0 ∧ ans.getD i 0 < 4294967296) (_ : Wc c), Wc (runv k c f ans).1
 | 0, c, f, ans, _, _, hc => by simp only [runv]; exact hc
 | k + 1, c, f, ans, hf, ha, hc => by
  have hw := hc.step f hf
  have hl := stepv_lt c f hf
  obtain ⟨z, hz⟩ : ∃ z, stepv c f = z := ⟨_, rfl⟩
  obtain ⟨d, g, e⟩ := z
  rw [hz] at hw hl
  simp only at hw hl
  by_cases h0 : e = 0
  ·subst h0
   rw [run_on k c f ans d g hz]
   exact runv_wc k d g ans hl ha hw
  by_cases h1 : e = 1
  ·subst h1
   cases ans with
   | nil => rw [run_last k c f d g hz]; exact hw
   | cons a rest =>
    rw [run_call k c f a rest d g hz]
    exact runv_wc k (d.set 10 a) g rest hl (fun i => ha (i + 1)) (hw.set 10 a (ha 0))
  ·rw [run_stop k c f ans d g e hz h0 h1]
   exact hw
theorem runv_len (k : Nat) (c : List Int) (f : Nat → Nat) (ans : List Int) (hf : ∀ x, f x < 256) (ha : ∀ i, 0 ≤ ans.getD i 0 ∧ ans.getD i 0 < 4294967296) (hc : Wc c) : (runv k c f ans).1.length = 33 := (runv_wc k c f ans hf ha hc).len
end Go.Proofs.Ytononmcodecmaaa.Cp
end
section
/- Layer 4: the machine (part KX). -/
namespace Go.Proofs.Ytononmcodecmaaa.Cp
open Go.RowKit Go.Maps Go.Proofs Go.Proofs.YtononmcodecmaaaW Go.Proofs.YtononmcodecmaaaW.PrintWords
set_option maxRecDepth 100000
set_option linter.unusedVariables false
set_option linter.unusedSimpArgs false
attribute [local go_sem] cv_set cv_at cv_size
def One (d c : List Int) : Prop := ∃ r, ∀ i, i < 32 → i ≠ r → reg d i = reg c i
theorem one_refl (c : List Int) (k : Nat) (v : Int) (hk : 32 ≤ k) : ∀ i, i < 32 → reg (c.set k v) i = reg c i := fun i hi => reg_set_ne _ _ _ _ (by omega)
theorem setl_one (c : List Int) (r : Nat) (v : Int) : (∀ i, i ≠ r → reg (setl c r v) i = reg c i) ∧ (reg c 0 = 0 → reg (setl c r v) 0 = 0) := by
 unfold setl
 split
 ·exact ⟨fun _ _ => rfl, id⟩
 ·rename_i h
  exact ⟨fun i hi => reg_set_ne _ _ _ _ (fun e => hi e.symm), fun h0 => by rw [reg_set_ne _ _ _ _ h]; exact h0⟩
theorem rset_one (c : List Int) (r : Nat) (v : Int) : (∀ i, i < 32 → i ≠ r → reg (rset c r v) i = reg c i) ∧ (reg c 0 = 0 → reg (rset c r v) 0 = 0) := by
 have h := setl_one c r v
 have e : rset c r v = (setl c r v).set 32 ((reg c 32 + 4) % 4294967296) := rfl
 rw [e]
 exact ⟨fun i hi hr => by rw [reg_set_ne _ _ _ _ (by omega)]; exact h.1 i hr, fun h0 => by rw [reg_set_ne _ _ _ _ (by omega)]; exact h.2 h0⟩
def Stays (c : List Int) (f : Nat → Nat) (t : List Int × (Nat → Nat) × Int) : Prop :=
 (t.2.2 ≠ 0 → t.2.2 ≠ 1 → t.1 = c ∧ t.2.1 = f) ∧ (t.2.2 = 1 → t.1 = c.set 32 ((reg c 32 + 4) % 4294967296) ∧ t.2.1 = f) ∧
 (t.2.2 = 0 → reg t.1 0 = 0 ∧ ((∀ i, i < 32 → reg t.1 i = reg c i) ∨ (One t.1 c ∧ t.2.1 = f)))
theorem stays_access (c : List Int) (h0 : reg c 0 = 0) (f : Nat → Nat) (op rd a b m : Int) : Stays c f (accessv c f op rd a b m) := by
 unfold accessv
 split
 ·exact ⟨fun _ _ => ⟨rfl, rfl⟩, fun h => (by cases h), fun h => (by cases h)⟩
 split
 ·exact ⟨fun h _ => absurd rfl h, fun h => (by cases h), fun _ => ⟨by rw [reg_set_ne _ _ _ _ (by omega)]; exact h0, Or.inl (one_refl _ _ _ (Nat.le_refl _))⟩⟩
 ·refine ⟨fun h _ => absurd rfl h, fun h => (by cases h), fun _ => ⟨(rset_one _ _ _).2 h0, Or.inr ⟨⟨_, (rset_one _ _ _).1⟩, rfl⟩⟩⟩
theorem stays_jump (c : List Int) (h0 : reg c 0 = 0) (f : Nat → Nat) (op rd a b m : Int) : Stays c f (jumpv c f op rd a b m) := by
 have hs : ∀ v u, reg ((setl c rd.toNat v).set 32 u) 0 = 0 ∧ One ((setl c rd.toNat v).set 32 u) c := fun v u =>
  ⟨by rw [reg_set_ne _ _ _ _ (by omega)]; exact (setl_one _ _ _).2 h0, ⟨rd.toNat, fun i hi hr => by rw [reg_set_ne _ _ _ _ (by omega)]; exact (setl_one _ _ _).1 i hr⟩⟩
 unfold jumpv
 split
 ·exact ⟨fun h _ => absurd rfl h, fun h => (by cases h), fun _ => ⟨(hs _ _).1, Or.inr ⟨(hs _ _).2, rfl⟩⟩⟩
 split
 ·exact ⟨fun h _ => absurd rfl h, fun h => (by cases h), fun _ => ⟨(hs _ _).1, Or.inr ⟨(hs _ _).2, rfl⟩⟩⟩
 split
 ·exact ⟨fun h _ => absurd rfl h, fun h => (by cases h), fun _ => ⟨by rw [reg_set_ne _ _ _ _ (by omega)]; exact h0, Or.inl (one_refl _ _ _ (Nat.le_refl _))⟩⟩
 split
 ·exact ⟨fun _ h => absurd rfl h, fun _ => ⟨rfl, rfl⟩, fun h => (by cases h)⟩
 split
 ·exact ⟨fun _ _ => ⟨rfl, rfl⟩, fun h => (by cases h), fun h => (by cases h)⟩
 ·exact stays_access c h0 f _ _ _ _ _
theorem does_one (c : List Int) (h0 : reg c 0 = 0) (op rd a b m : Int) : reg (doesv c op rd a b m).1 0 = 0 ∧ One (doesv c op rd a b m).1 (c.set 0 0) := by
 have z : ∀ c : List Int, reg (c.set 0 0) 0 = 0 := fun c => by
  by_cases h : 0 < c.length
  ·exact reg_set_eq _ _ _ h
  ·have : c = [] := List.eq_nil_of_length_eq_zero (by omega)
   subst this
   rfl
 unfold doesv
 split
 ·split
  ·exact ⟨(rset_one _ _ _).2 (z c), ⟨_, (rset_one _ _ _).1⟩⟩
  ·exact ⟨z c, ⟨0, fun _ _ _ => rfl⟩⟩
 ·exact ⟨z c, ⟨0, fun _ _ _ => rfl⟩⟩
theorem set0_set0 (c : List Int) : (c.set 0 0).set 0 0 = c.set 0 (0 : Int) := List.set_set _
theorem stays_stepw (c : List Int) (h0 : reg c 0 = 0) (hs : c.set 0 0 = c) (f : Nat → Nat) (z : Int × Int × Int × Int × Int × Int) : Stays c f (stepw c f z) := by
 unfold stepw
 split
 ·exact ⟨fun _ _ => ⟨rfl, rfl⟩, fun h => (by cases h), fun h => (by cases h)⟩
 split
 ·have hd := does_one c h0 z.1 z.2.1 z.2.2.1 z.2.2.2.1 z.2.2.2.2.1
  rw [hs] at hd
  exact ⟨fun h _ => absurd rfl h, fun h => (by cases h), fun _ => ⟨hd.1, Or.inr ⟨hd.2, rfl⟩⟩⟩
 ·exact stays_jump _ h0 f _ _ _ _ _
theorem stays_step (c : List Int) (hc : c.length = 33) (f : Nat → Nat) : Stays (c.set 0 0) f (stepv c f) := by
 have h0 : reg (c.set 0 0) 0 = 0 := reg_set_eq _ _ _ (by omega)
 by_cases h : reg (c.set 0 0) 32 % 4 = 0
 ·rw [stepv_w c f h]
  exact stays_stepw _ h0 (set0_set0 c) f _
 ·rw [stepv_m c f h]
  exact ⟨fun _ _ => ⟨rfl, rfl⟩, fun h => (by cases h), fun h => (by cases h)⟩
def cnt (d c : List Int) : Nat → Nat
 | 0 => 0
 | j + 1 => cnt d c j + (if reg d j ≠ reg c j then 1 else 0)
end Go.Proofs.Ytononmcodecmaaa.Cp
end
section
/- Layer 4: the machine (part KQ). -/
namespace Go.Proofs.Ytononmcodecmaaa.Cp
open Go.RowKit Go.Maps Go.Proofs Go.Proofs.YtononmcodecmaaaW Go.Proofs.YtononmcodecmaaaW.PrintWords
set_option maxRecDepth 100000
set_option linter.unusedVariables false
set_option linter.unusedSimpArgs false
attribute [local go_sem] cv_set cv_at cv_size
theorem eqU (d : Nat) (z : Int) (w : World) : (Op.equalIn (d + 1) 22 (.int .u32 z) (.int .u32 z)).run Try.prog w = .ok true w := by
 simp [Op.equalIn, Sem.run_bind, run_underlying Try.underlying22]
theorem partU (xs : Array Value) (i : Nat) (z : Int) (h : xs[i]? = some (.int .u32 z)) (w : World) : (part 22 xs i).run Try.prog w = .ok (.int .u32 z) w :=
 run_part_plain w (by kernel_rfl) h
theorem eqItems_refl (d : Nat) (xs : Array Value) (w : World) : ∀ is : List Nat, (∀ i ∈ is, ∃ z, xs[i]? = some (.int .u32 z)) → (Op.eqItems (d + 1) 22 1 xs xs is).run Try.prog w = .ok true w
 | [], _ => by simp [Op.eqItems]
 | i :: is, h => by
  obtain ⟨z, hz⟩ := h i (List.mem_cons_self)
  have ih := eqItems_refl d xs w is (fun j hj => h j (List.mem_cons_of_mem _ hj))
  simp only [Op.eqItems, Sem.run_bind, Nat.mul_one, partU xs i z hz w, Result.andThen_ok, eqU d z w]
  simpa using ih
theorem eqArr (d : Nat) (c : List Int) (hc : 32 ≤ c.length) (w : World) : (Op.equalIn (d + 2) 23 (.agg ((cv c).extract 0 32)) (.agg ((cv c).extract 0 32))).run Try.prog w = .ok true w := by
 obtain ⟨i, hi⟩ : ∃ i, Try.prog.info? 22 = some i := ⟨_, rfl⟩
 rw [run_equalIn_array w (d + 1) _ _ Try.underlying23 hi, show Try.prog.cellsOf 22 = 1 by kernel_rfl]
 refine eqItems_refl d _ w _ (fun j hj => ?_)
 have hj : j < 32 := by simpa using hj
 refine ⟨reg c j, ?_⟩
 rw [Array.getElem?_extract, if_pos (by rw [cv_size]; omega), Nat.zero_add, cv_get c j (by omega)]
theorem eqC (c : List Int) (hc : c.length = 33) (w : World) : (Op.equalIn 10000 25 (.agg (cv c)) (.agg (cv c))).run Try.prog w = .ok true w := by
 refine (eqA_of (d := 9999) Try.underlying25 (by kernel_rfl) ?_ : (Op.equalIn (9999 + 1) 25 (.agg (cv c)) (.agg (cv c))).run Try.prog w = .ok true w)
 have h0 : ∀ w, (part 23 (cv c) 0).run Try.prog w = .ok (.agg ((cv c).extract 0 32)) w := by
  intro w
  obtain ⟨i, hi⟩ : ∃ i, Try.prog.info? 23 = some i := ⟨_, rfl⟩
  have hs : Try.prog.cellsOf 23 = 32 := by kernel_rfl
  simp only [part, isAgg, Sem.run_bind, run_underlying Try.underlying23, Result.andThen_ok, Sem.run_pure, if_true, run_sizeOf w hi, hs, Nat.zero_add]
 have h1 := partU (cv c) 32 (reg c 32) (cv_get c 32 (by omega)) w
 have e1 := eqArr 9997 c (by omega) w
 rw [show 9997 + 2 = 9999 from rfl] at e1
 have e2 := eqU 9998 (reg c 32) w
 rw [show 9998 + 1 = 9999 from rfl] at e2
 have e3 := eqf_last (P := Try.prog) (d := 9999) (xs := cv c) (ys := cv c) (f := ⟨"Pc", 22, 32, false, "", "", 128⟩) rfl h1 h1 e2
 have e4 := eqf_cons (P := Try.prog) (d := 9999) (xs := cv c) (ys := cv c) (f := ⟨"X", 23, 0, false, "", "", 0⟩) rfl (h0 w) (h0 w) e1 e3
 exact e4
theorem eqB (c : List Int) (hc : c.length = 33) (w : World) : (binOp .eql 25 (.agg (cv c)) (.agg (cv c))).run Try.prog w = .ok (.bool true) w := by
 rw [run_eql_struct, eqC c hc w]
 rfl
end Go.Proofs.Ytononmcodecmaaa.Cp
end
section
/- Layer 4: the machine (part K1). -/
namespace Go.Proofs.Ytononmcodecmaaa.Cp
open Go.RowKit Go.Maps Go.Proofs Go.Proofs.YtononmcodecmaaaW Go.Proofs.YtononmcodecmaaaW.PrintWords
set_option maxRecDepth 100000
set_option linter.unusedVariables false
set_option linter.unusedSimpArgs false
attribute [local go_sem] cv_set cv_at cv_size
theorem gl_nil (r : List Int × (Nat → Nat) × List (List Int) × Int × Nat) : gl [] 0 r = r := rfl
theorem runv_parts : ∀ (k m : Nat) (c : List Int) (f : Nat → Nat) (ans : List Int), runv (k + m) c f ans =
  if (runv k c f ans).2.2.2.1 = 6 then gl (runv k c f ans).2.2.1 k (runv m (runv k c f ans).1 (runv k c f ans).2.1 (ans.drop (runv k c f ans).2.2.1.length)) else runv k c f ans
 | 0, m, c, f, ans => by
  have e0 : runv 0 c f ans = (c, f, [], 6, 0) := rfl
  rw [Nat.zero_add, e0, if_pos rfl]
  simp only [List.length_nil, List.drop_zero, gl_nil]
 | k + 1, m, c, f, ans => by
  have he := stepv_end c f
  rw [Nat.add_right_comm]
  obtain ⟨z, hz⟩ : ∃ z, stepv c f = z := ⟨_, rfl⟩
  obtain ⟨d, g, e⟩ := z
  rw [hz] at he
  simp only at he
  by_cases h0 : e = 0
  ·subst h0
   rw [run_on k c f ans d g hz, run_on (k + m) c f ans d g hz, runv_parts k m d g ans]
   generalize runv k d g ans = T
   have e1 : (gl [] 1 T).2.2.2.1 = T.2.2.2.1 := rfl
   have e2 : (gl [] 1 T).2.2.1 = T.2.2.1 := rfl
   have e3 : (gl [] 1 T).1 = T.1 := rfl
   have e4 : (gl [] 1 T).2.1 = T.2.1 := rfl
   rw [e1, e2, e3, e4]
   split
   ·rw [gl_gl, List.nil_append, Nat.add_comm 1 k]
   ·rfl
  by_cases h1 : e = 1
  ·subst h1
   cases ans with
   | nil =>
    rw [run_last k c f d g hz, run_last (k + m) c f d g hz]
    simp
   | cons a rest =>
    rw [run_call k c f a rest d g hz, run_call (k + m) c f a rest d g hz, runv_parts k m (d.set 10 a) g rest]
    generalize runv k (d.set 10 a) g rest = T
    have e1 : (gl [callv d] 1 T).2.2.2.1 = T.2.2.2.1 := rfl
    have e2 : (gl [callv d] 1 T).2.2.1 = callv d :: T.2.2.1 := rfl
    have e3 : (gl [callv d] 1 T).1 = T.1 := rfl
    have e4 : (gl [callv d] 1 T).2.1 = T.2.1 := rfl
    rw [e1, e2, e3, e4, List.length_cons, List.drop_succ_cons]
    split
    ·rw [gl_gl, Nat.add_comm 1 k]
     rfl
    ·rfl
  ·rw [run_stop k c f ans d g e hz h0 h1, run_stop (k + m) c f ans d g e hz h0 h1]
   have : e ≠ 6 := by omega
   simp [this]
theorem runv_lt : ∀ (k : Nat) (c : List Int) (f : Nat → Nat) (ans : List Int) (_ : ∀ x, f x < 256), ∀ x, (runv k c f ans).2.1 x < 256
 | 0, c, f, ans, hf => hf
 | k + 1, c, f, ans, hf => by
  have hl := stepv_lt c f hf
  obtain ⟨z, hz⟩ : ∃ z, stepv c f = z := ⟨_, rfl⟩
  obtain ⟨d, g, e⟩ := z
  rw [hz] at hl
  simp only at hl
  by_cases h0 : e = 0
  ·subst h0
   rw [run_on k c f ans d g hz]
   exact runv_lt k d g ans hl
  by_cases h1 : e = 1
  ·subst h1
   cases ans with
   | nil => rw [run_last k c f d g hz]; exact hl
   | cons a rest =>
    rw [run_call k c f a rest d g hz]
    exact runv_lt k (d.set 10 a) g rest hl
  ·rw [run_stop k c f ans d g e hz h0 h1]
   exact hl
theorem set0_id (c : List Int) (h : reg c 0 = 0) : c.set 0 0 = c := by
 cases c with
 | nil => rfl
 | cons a r =>
  have : a = 0 := by simpa [reg] using h
  rw [this]
  rfl
theorem reg_set0 (c : List Int) : reg (c.set 0 0) 0 = 0 := by
 cases c with
 | nil => rfl
 | cons a r => rfl
theorem stepv_zero (c : List Int) (hc : c.length = 33) (f : Nat → Nat) : reg (stepv c f).1 0 = 0 := by
 have h := stays_step c hc f
 by_cases h0 : (stepv c f).2.2 = 0
 ·exact (h.2.2 h0).1
 by_cases h1 : (stepv c f).2.2 = 1
 ·rw [(h.2.1 h1).1, reg_set_ne _ _ _ _ (by omega)]
  exact reg_set0 c
 ·rw [(h.1 h0 h1).1]
  exact reg_set0 c
theorem runv_zero : ∀ (k : Nat) (c : List Int) (f : Nat → Nat) (ans : List Int) (_ : ∀ x, f x < 256) (_ : ∀ i, 0 ≤ ans.getD i 0 ∧ ans.getD i 0 < 4294967296) (_ : Wc c) (_ : reg c 0 = 0), reg (runv k c f ans).1 0 = 0
 | 0, c, f, ans, _, _, _, h => by simp only [runv]; exact h
 | k + 1, c, f, ans, hf, ha, hc, h => by
  have hw := hc.step f hf
  have hl := stepv_lt c f hf
  have hr := stepv_zero c hc.len f
  obtain ⟨z, hz⟩ : ∃ z, stepv c f = z := ⟨_, rfl⟩
  obtain ⟨d, g, e⟩ := z
  rw [hz] at hw hl hr
  simp only at hw hl hr
  by_cases h0 : e = 0
  ·subst h0
   rw [run_on k c f ans d g hz]
   exact runv_zero k d g ans hl ha hw hr
  by_cases h1 : e = 1
  ·subst h1
   cases ans with
   | nil => rw [run_last k c f d g hz]; exact hr
   | cons a rest =>
    rw [run_call k c f a rest d g hz]
    exact runv_zero k (d.set 10 a) g rest hl (fun i => ha (i + 1)) (hw.set 10 a (ha 0)) (by rw [reg_set_ne _ _ _ _ (by omega)]; exact hr)
  ·rw [run_stop k c f ans d g e hz h0 h1]
   exact hr
end Go.Proofs.Ytononmcodecmaaa.Cp
end
section
/- Layer 4: the machine (part K2). -/
namespace Go.Proofs.Ytononmcodecmaaa.Cp
open Go.RowKit Go.Maps Go.Proofs Go.Proofs.YtononmcodecmaaaW Go.Proofs.YtononmcodecmaaaW.PrintWords
set_option maxRecDepth 100000
set_option linter.unusedVariables false
set_option linter.unusedSimpArgs false
attribute [local go_sem] cv_set cv_at cv_size
theorem i64_and65535 (x : Int) : ∃ J : Nat, Go.bits .and .i64 x 65535 = (J : Int) ∧ J ≤ 65535 := by
 refine ⟨(BitVec.ofInt 64 x).toNat % 65536, ?_, by omega⟩
 show IntKind.i64.wrap ((BitVec.ofInt 64 x &&& BitVec.ofInt 64 (65535 : Int)).toNat : Int) = _
 rw [BitVec.toNat_and, show (BitVec.ofInt 64 (65535 : Int)).toNat = 65535 from rfl, nat_mask16, IntKind.wrap_i64]
 omega
theorem belowG {w w1 w2 : World} {b : Nat} (h : Below w.heap.size w w1) (hg : w1.grownBy w2 (some b)) (hb : w.heap.size ≤ b) : Below w.heap.size w w2 :=
 h.trans ⟨hg.os, hg.tape, hg.output, hg.size, fun k hk => hg.block k (Nat.lt_of_lt_of_le hk h.size) (fun e => by injection e with e; omega)⟩
theorem belowN {w w1 w2 : World} (h : Below w.heap.size w w1) (hg : w1.grownBy w2 none) : Below w.heap.size w w2 :=
 h.trans ⟨hg.os, hg.tape, hg.output, hg.size, fun k hk => hg.block k (Nat.lt_of_lt_of_le hk h.size) (fun e => by cases e)⟩
theorem belowE {w w' : World} (hg : w.grownBy w' none) : Below w.heap.size w w' := belowN (Below.refl _ w) hg
theorem rowB {w w' : World} {g : Nat} {cs : Array Value} {t : TypeId} {fr : Nat × Nat} (h : w.heap[g]? = some (.cells cs t fr)) (hB : Below w.heap.size w w') : w'.heap[g]? = some (.cells cs t fr) :=
 (hB.block g (Array.getElem?_eq_some_iff.1 h).1).trans h
theorem rowG {w w' : World} {g b : Nat} {cs : Array Value} {t : TypeId} {fr : Nat × Nat} (h : w.heap[g]? = some (.cells cs t fr)) (hg : w.grownBy w' (some b)) (hne : g ≠ b) : w'.heap[g]? = some (.cells cs t fr) :=
 (hg.block g (Array.getElem?_eq_some_iff.1 h).1 (fun e => hne (by injection e))).trans h
end Go.Proofs.Ytononmcodecmaaa.Cp
end
section
/- Layer 4: the machine (part K3). -/
namespace Go.Proofs.Ytononmcodecmaaa.Cp
open Go.RowKit Go.Maps Go.Proofs Go.Proofs.YtononmcodecmaaaW Go.Proofs.YtononmcodecmaaaW.PrintWords
set_option maxRecDepth 100000
set_option linter.unusedVariables false
set_option linter.unusedSimpArgs false
attribute [local go_sem] cv_set cv_at cv_size
theorem kvs_len (l : List (List Int)) (hl : ∀ k ∈ l, k.length = 8) : (kvs l).length = l.length * 8 := by
 induction l with
 | nil => rfl
 | cons k l ih =>
  have e : kvs (k :: l) = k.map (Value.int .u32) ++ kvs l := rfl
  rw [e, List.length_append, List.length_map, hl k (List.mem_cons_self), ih (fun x hx => hl x (List.mem_cons_of_mem _ hx)), List.length_cons]
  omega
theorem kvs_get (l : List (List Int)) (hl : ∀ k ∈ l, k.length = 8) : ∀ (j : Nat) (k : List Int) (i : Nat), l[j]? = some k → i < 8 → (kvs l)[j * 8 + i]? = some (.int .u32 (reg k i)) := by
 induction l with
 | nil => intro j k i h; simp at h
 | cons k0 l ih =>
  intro j k i h hi
  have h8 := hl k0 (List.mem_cons_self)
  have e : kvs (k0 :: l) = k0.map (Value.int .u32) ++ kvs l := rfl
  rw [e]
  match j with
  | 0 =>
   have : k0 = k := by simpa using h
   subst this
   rw [List.getElem?_append_left (by rw [List.length_map]; omega), List.getElem?_map]
   have : (0 * 8 + i) < k0.length := by omega
   rw [List.getElem?_eq_getElem this]
   simp [reg, List.getD_eq_getElem?_getD, List.getElem?_eq_getElem, show i < k0.length by omega]
  | j + 1 =>
   rw [List.getElem?_append_right (by rw [List.length_map]; omega), List.length_map, h8, show (j + 1) * 8 + i - 8 = j * 8 + i by omega]
   exact ih (fun x hx => hl x (List.mem_cons_of_mem _ hx)) j k i (by simpa using h) hi
theorem qload {P : Program} {ops : Array Oper} {C : World → Prop} {Q : Act → Prop} {a : Act} {o : Oper} {rest : List Oper} {t : TypeId} (hgd : o.guard = none) (x : Operand) (ho : o.op = .load t x) (p : Addr) (hx : a.eval x = .pointer (some p)) (v : Value)
  (hv : ∀ w, C w → (loadVar t p).run P w = .ok v w) (h : wpQuiet P ops C Q rest (a.put o.dst v)) : wpQuiet P ops C Q (o :: rest) a := by
 have e : wpQuiet P ops C Q (o :: rest) a = (if Region.wanted o (yielded ops a.tmps) then o.quiet P a C (wpQuiet P ops C Q rest) else wpQuiet P ops C Q rest (a.put o.dst undef)) := rfl
 rw [e, show Region.wanted o (yielded ops a.tmps) = true by unfold Region.wanted; rw [hgd], if_pos rfl]
 refine ⟨v, fun w hw => ?_, h⟩
 have hld := hv w hw
 unfold Oper.quietAt execOp
 simp only [ho, hx, Instr.loadAt, Instr.sureAddr, Sem.run_bind, Sem.run_pure, Result.andThen_ok, hld, Oper.quietUpon, and_self]
theorem qbin {P : Program} {ops : Array Oper} {C : World → Prop} {Q : Act → Prop} {a : Act} {o : Oper} {rest : List Oper} {t t' : TypeId} (hgd : o.guard = none) (b : BinOp) (x y : Operand) (ho : o.op = .binOp b t x y t') (v : Value)
  (hg : ∀ w, (eqGuard b t x y (a.eval x) (a.eval y)).run P w = .ok () w) (hv : ∀ w, C w → (binOp b t (a.eval x) (a.eval y)).run P w = .ok v w) (h : wpQuiet P ops C Q rest (a.put o.dst v)) : wpQuiet P ops C Q (o :: rest) a := by
 have e : wpQuiet P ops C Q (o :: rest) a = (if Region.wanted o (yielded ops a.tmps) then o.quiet P a C (wpQuiet P ops C Q rest) else wpQuiet P ops C Q rest (a.put o.dst undef)) := rfl
 rw [e, show Region.wanted o (yielded ops a.tmps) = true by unfold Region.wanted; rw [hgd], if_pos rfl]
 refine ⟨v, fun w hw => ?_, h⟩
 have hld := hv w hw
 unfold Oper.quietAt execOp
 simp only [ho, Sem.run_bind, Sem.run_pure, Result.andThen_ok, hg, hld, Oper.quietUpon, and_self]
theorem loadK (w : World) (g j : Nat) (k : List Int) (hcell : ∀ i, i < 8 → w.cell? ⟨g, j + i, none⟩ = some (.int .u32 (reg k i))) (hk : k.length = 8) : (loadVar 67 ⟨g, j, none⟩).run Try.prog w = .ok (.agg (cv k)) w := by
 have hl : (loadCells ⟨g, j, none⟩ (cv k).toList.length).run Try.prog w = .ok (cv k).toList.toArray w :=
  run_loadCells_list (P := Try.prog) w ⟨g, j, none⟩ (cv k).toList (fun i v hv => by
   have hadd : (⟨g, j, none⟩ : Addr).add i = ⟨g, j + i, none⟩ := by unfold Addr.add; split <;> simp_all
   have hj : i < 8 := by
    have := (List.getElem?_eq_some_iff.1 hv).1
    rw [Array.length_toList, cv_size] at this
    omega
   rw [hadd, hcell i hj]
   rw [Array.getElem?_toList, cv_get k i (by omega)] at hv
   exact hv)
 have hi := infoK
 cases hq : Try.prog.info? 67 with
 | none => simp [hq] at hi
 | some i =>
  have hs : i.size = 8 := by simpa [hq] using hi
  have hagg : (isAgg 67).run Try.prog w = .ok true w := by
   unfold isAgg
   rw [Sem.run_bind, run_underlying Try.underlying67 w]
   simp
  simp only [Array.length_toList, Array.toArray_toList, cv_size, hk] at hl
  simp [loadVar, Sem.run_bind, hagg, sizeOf, typeInfo, hq, hs, hl]
theorem eqArr8 (d : Nat) (c : List Int) (hc : 8 ≤ c.length) (w : World) : (Op.equalIn (d + 2) 65 (.agg ((cv c).extract 0 8)) (.agg ((cv c).extract 0 8))).run Try.prog w = .ok true w := by
 obtain ⟨i, hi⟩ : ∃ i, Try.prog.info? 22 = some i := ⟨_, rfl⟩
 rw [run_equalIn_array w (d + 1) _ _ Try.underlying65 hi, show Try.prog.cellsOf 22 = 1 by kernel_rfl]
 refine eqItems_refl d _ w _ (fun j hj => ?_)
 have hj : j < 8 := by simpa using hj
 refine ⟨reg c j, ?_⟩
 rw [Array.getElem?_extract, if_pos (by rw [cv_size]; omega), Nat.zero_add, cv_get c j (by omega)]
theorem eqK (c : List Int) (hc : c.length = 8) (w : World) : (Op.equalIn 10000 67 (.agg (cv c)) (.agg (cv c))).run Try.prog w = .ok true w := by
 refine (eqA_of (d := 9999) Try.underlying67 (by kernel_rfl) ?_ : (Op.equalIn (9999 + 1) 67 (.agg (cv c)) (.agg (cv c))).run Try.prog w = .ok true w)
 have h0 : ∀ w, (part 65 (cv c) 0).run Try.prog w = .ok (.agg ((cv c).extract 0 8)) w := by
  intro w
  obtain ⟨i, hi⟩ : ∃ i, Try.prog.info? 65 = some i := ⟨_, rfl⟩
  have hs : Try.prog.cellsOf 65 = 8 := by kernel_rfl
  simp only [part, isAgg, Sem.run_bind, run_underlying Try.underlying65, Result.andThen_ok, Sem.run_pure, if_true, run_sizeOf w hi, hs, Nat.zero_add]
 have e1 := eqArr8 9997 c (by omega) w
 rw [show 9997 + 2 = 9999 from rfl] at e1
 exact eqf_last (P := Try.prog) (d := 9999) (xs := cv c) (ys := cv c) (f := ⟨"A", 65, 0, false, "", "", 0⟩) rfl (h0 w) (h0 w) e1
theorem neqK (c : List Int) (hc : c.length = 8) (w : World) : (binOp .neq 67 (.agg (cv c)) (.agg (cv c))).run Try.prog w = .ok (.bool false) w := by
 rw [run_neq_struct, eqK c hc w]
 rfl
set_option maxHeartbeats 1600000 in
theorem KSame_calls (ba bb : Nat) (va vb : Value) (l : List (List Int)) (h8 : ∀ k ∈ l, k.length = 8) (w : World) (ha : OwnK w ba va l) (hb : OwnK w bb vb l) (hl : l.length < 1000000000) :
  Calls Try.prog 20 #[va, vb] w fun e w' => e = .returned (.bool true) ∧ ∃ n, w' = w.drewN n := by
 obtain ⟨oa, ca, rfl, hoa⟩ := own_optK ha
 obtain ⟨ob, cb, rfl, hob⟩ := own_optK hb
 have HA := Lib.hid ha
 have HB := Lib.hid hb
 have HOA := Lib.hid hoa
 have HOB := Lib.hid hob
 have H8 := Lib.hid h8
 obtain ⟨N, hN⟩ : ∃ N, N = l.length := ⟨_, rfl⟩
 have HN := Lib.hid hN
 rw [← hN] at hl HOA HOB ⊢
 clear ha hb hoa hob h8 hN
 go_enter Try.func20, Try.ntmps20
 go_wp2
 go_loopw [5] (fun i wr => ∃ j n : Nat, j ≤ N ∧ i = .int .i64 j ∧ wr = w.drewN n) (fun i _ => N - (intOf i).toNat)
 case atStart => exact ⟨0, 0, Nat.zero_le _, rfl, rfl⟩
 case round =>
  obtain ⟨j, n, hj, rfl, rfl⟩ := hrel
  by_cases hlt : j < N
  ·obtain ⟨g, rfl⟩ := HOA.out (by omega)
   obtain ⟨g2, rfl⟩ := HOB.out (by omega)
   have hjl : j < l.length := by rw [← HN.out]; exact hlt
   obtain ⟨k, hk⟩ : ∃ k, l[j]? = some k := ⟨_, List.getElem?_eq_getElem hjl⟩
   have hk8 := H8.out k (List.mem_of_getElem? hk)
   have c1 : ∀ i, i < 8 → w.cell? ⟨g, j * 8 + i, none⟩ = some (.int .u32 (reg k i)) := fun i hi => (World.ownsRow.cellAt HA.out (j * 8 + i) (by omega)).trans (kvs_get l H8.out j k i hk hi)
   have c2 : ∀ i, i < 8 → w.cell? ⟨g2, j * 8 + i, none⟩ = some (.int .u32 (reg k i)) := fun i hi => (World.ownsRow.cellAt HB.out (j * 8 + i) (by omega)).trans (kvs_get l H8.out j k i hk hi)
   have L1 := Lib.hid (fun m => loadK (w.drewN m) g (j * 8) k c1 hk8)
   have L2 := Lib.hid (fun m => loadK (w.drewN m) g2 (j * 8) k c2 hk8)
   clear c1 c2 hk hjl
   go_wp2
   refine wp_region_quiet_lit (by kernel_rfl) (by kernel_rfl) ?_
   quiet_step (fail)
   quiet_step (fail)
   quiet_step (fail)
   refine qload rfl _ rfl ⟨g, j * 8, none⟩ rfl (.agg (cv k)) (by rintro _ ⟨m, rfl⟩; exact (World.drewN_drewN w n m) ▸ L1.out (n + m)) ?_
   quiet_step (fail)
   quiet_step (fail)
   quiet_step (fail)
   refine qload rfl _ rfl ⟨g2, j * 8, none⟩ rfl (.agg (cv k)) (by rintro _ ⟨m, rfl⟩; exact (World.drewN_drewN w n m) ▸ L2.out (n + m)) ?_
   refine qbin rfl _ _ _ rfl (.bool false) (by intro w; go_simp) (fun w _ => neqK k hk8 w) ?_
   refine wpQuiet_nil ?_
   rintro _ ⟨nq, rfl⟩
   go_wp2
   exact ⟨⟨j + 1, _, hlt, by go_num, rfl⟩, by simp [intOf]; omega⟩
  ·have hjN : j = N := by omega
   subst hjN
   go_wp2
   go_ret
   exact ⟨rfl, _, rfl⟩
theorem run_append_none {P : Program} (w : World) (t ty e : TypeId) (i : TypeInfo) (ht : P.underlying t = some (.slice e)) (hi : P.info? e = some i) (o : Option Addr) (n cap : Nat) (hn : n ≤ cap) : (Builtin.append_ #[t, t] ty #[.slice o n cap, .slice none 0 0]).run P w = .ok (.slice o n cap) w := by
 unfold Builtin.append_
 cases o <;> simp [Sem.run_bind, run_underlying ht, sizeOf, typeInfo, hi, Builtin.lenOf, Builtin.firstCells, hn, storeCells, asInt]
theorem wp_appK2 {w : World} {ops : Array Oper} {rest : List Oper} {o : Oper} {ac : Act} {Q : Exit → Act → World → Prop} (hg : o.guard = none) (s x : Operand) (hop : o.op = .call { callee := .builtin .append, args := #[s, x], argTypes := #[39, 39] })
  (base b2 : Nat) (v vx : Value) (l m : List (List Int)) (hm8 : ∀ k ∈ m, k.length = 8) (hs : ac.eval s = v) (hown : OwnK w base v l) (hx : ac.eval x = vx) (hox : OwnK w b2 vx m) (hl : l.length < 100000) (hmm : m.length < 100000) (hbase : base ≤ w.heap.size)
  (hK : ∀ v' w', OwnK w' base v' (l ++ m) → w.grownBy w' v.ownBlock → wpList Try.prog ops Q rest (ac.put o.dst v') w') :
  wpList Try.prog ops Q (o :: rest) ac w := by
 obtain ⟨i0, hi, hz0, hz1, hz2⟩ := info_parts infoK3
 rcases hox.2 with ⟨e1, e2⟩ | ⟨g, cap, cur, e, hb, hh, h1, h2, h3, h4⟩
 ·have hm0 : m = [] := List.eq_nil_of_length_eq_zero e2
  subst hm0
  obtain ⟨oo, cp, hv, hle⟩ : ∃ oo cp, v = .slice oo l.length cp ∧ l.length ≤ cp := by
   rcases hown.2 with ⟨q1, q2⟩ | ⟨g, cap, cur, e, _, _, h1, _⟩
   ·exact ⟨none, 0, by rw [q1, q2], by omega⟩
   ·exact ⟨_, cap, e, h1⟩
  subst hv
  subst e1
  refine wpList_plain hg fun K hKK => ?_
  unfold Oper.wp execOp
  simp only [hop, resolve, invoke, builtin, Sem.run_bind, Sem.run_pure, Result.andThen_ok, List.map_toArray, List.map_cons, List.map_nil, hs, hx, run_append_none w 39 o.type _ i0 Try.underlying39 hi oo l.length cp hle]
  exact hKK _ _ (hK _ _ (by rw [List.append_nil]; exact hown) ⟨rfl, rfl, rfl, Nat.le_refl _, fun _ _ _ => rfl⟩)
 ·refine wpList_append_own _ hg s x _ hop base _ i0 _ 8 32 Try.underlying39 hi hz0 hz1 hz2 rfl (by decide) v l.length (kvs l) hs hown ⟨g, 0, none⟩ m.length cap (kvs m) (hx.trans e) (kvs_len m hm8) (World.ownsRow.cells hox (by rw [e]; rfl)) ?_ (by unfold maxLen; omega) (by omega) hbase ?_
  ·intro u hu
   simp only [kvs, List.mem_flatMap, List.mem_map] at hu
   obtain ⟨k, _, y, _, rfl⟩ := hu
   rfl
  intro v' w' h1 h2 _
  refine hK v' w' ?_ h2
  show w'.ownsRow base _ 8 v' (l ++ m).length (kvs (l ++ m))
  rw [kvs_append, List.length_append]
  exact h1
end Go.Proofs.Ytononmcodecmaaa.Cp
end
section
/- Layer 4: the machine (part K5). -/
namespace Go.Proofs.Ytononmcodecmaaa.Cp
open Go.RowKit Go.Maps Go.Proofs Go.Proofs.YtononmcodecmaaaW Go.Proofs.YtononmcodecmaaaW.PrintWords
set_option maxRecDepth 100000
set_option linter.unusedVariables false
set_option linter.unusedSimpArgs false
attribute [local go_sem] cv_set cv_at cv_size
structure WdOk2 (w : World) (z : Wd) : Prop extends WdOk w z where
 cap : z.ans.length ≤ z.ac
section
open Go.ChangeShapes Go.WideShapes
variable {H : Type} {enc : TypeId × Value → H} {W : World}
theorem trod_cap {fuel : Nat} {L : List Value} {x : DataW H × List MemPlace} (h : DataW.trod enc Try.prog W 0 (fun _ => true) true fuel 34 L = some x) (z : Wd) (hl : z.c.length = 33) (e : L = (wv z).toList) : z.ans.length ≤ z.ac := by
 obtain ⟨xs, n, _, hx, hlen, hxl, hg⟩ := DataW.trod_struct Try.underlying34 h
 have g5 : DataW.trod enc Try.prog W 0 (fun _ => true) true n 32 ((L.drop 37).take (Try.prog.cellsOf 32)) = xs[5]? := hg 5 _ rfl
 clear hg
 match xs, hxl with
 | [y0, y1, y2, y3, y4, y5, y6], _ =>
  have e5 : (L.drop 37).take (Try.prog.cellsOf 32) = [.slice z.an z.ans.length z.ac] := by
   rw [show Try.prog.cellsOf 32 = 1 by kernel_rfl, e]
   have : (wv z).toList = z.c.map (Value.int .u32) ++ [Value.int .u32 z.A, Value.int .u32 z.B, Value.string z.S, Value.string z.T, Value.slice z.an z.ans.length z.ac, Value.int .i64 z.fuel] := rfl
   rw [this, List.drop_append, List.drop_of_length_le (by rw [List.length_map]; omega), List.length_map, hl]
   rfl
  rw [e5] at g5
  simp only [List.getElem?_cons_zero, List.getElem?_cons_succ] at g5
  rcases Go.Deep.open_slice Try.underlying32 g5 with ⟨q1, _⟩ | ⟨a, len, cp, m, n, D, Pl, q1, _, hle, _⟩
  ·have := (List.cons.inj q1).1
   injection this with _ q3 q4
   omega
  ·have := (List.cons.inj q1).1
   injection this with _ q3 q4
   omega
theorem open_wd2 {r : Reach} {b0 : Nat} {v : Value} {d : DataW H} {p : List MemPlace} (hv : Value.okWide Try.prog W r b0 34 v) (h : DataW.Trod enc Try.prog W 0 (fun _ => true) true 34 v d p) (hw : ∀ m ∈ d.weights Try.prog 34, m ≤ reachBytes) : ∃ z : Wd, WdOk2 W z ∧ v = .agg (wv z) := by
 obtain ⟨cs, rfl, hsz⟩ := okWide_struct Try.underlying34 hv
 obtain ⟨fuel, hf⟩ := h
 obtain ⟨z, hz, e⟩ := trod_wd hf hw
 have e2 : cs.toList = (wv z).toList := e
 refine ⟨z, ⟨hz, trod_cap hf z hz.wc.len e⟩, ?_⟩
 rw [show cs = wv z from Array.toList_inj.1 e2]
end
end Go.Proofs.Ytononmcodecmaaa.Cp
end
section
/- Layer 4: the machine (part K4). -/
namespace Go.Proofs.Ytononmcodecmaaa.Cp
open Go.RowKit Go.Maps Go.Proofs Go.Proofs.YtononmcodecmaaaW Go.Proofs.YtononmcodecmaaaW.PrintWords
set_option maxRecDepth 100000
set_option linter.unusedVariables false
set_option linter.unusedSimpArgs false
attribute [local go_sem] cv_set cv_at cv_size
theorem belowO {w w1 w2 : World} {v : Value} {l : List (List Int)} (h : Below w.heap.size w w1) (ho : OwnK w1 w.heap.size v l) (hg : w1.grownBy w2 v.ownBlock) : Below w.heap.size w w2 :=
 h.trans ⟨hg.os, hg.tape, hg.output, hg.size, fun k hk => hg.block k (Nat.lt_of_lt_of_le hk h.size) (fun e => by have := (World.ownsRow.lt ho k e.symm).1; omega)⟩
theorem absK {K : Act → World → Prop} {F : World → Prop} {a : Act} {w : World} (hF : F w) (h : ∀ W, F W → K a W) : K a w := h w hF
theorem twoWays {G : Prop} {F R : Nat → Option Addr → Nat → World → Prop} (h1 : (∀ g o c w, F g o c w → R g o c w) → G) (h2 : ∀ g o c w, F g o c w → R g o c w) : G := h1 h2
theorem dropAt {w : World} {A : Option Addr} {ans : List Int} (h : AnsAt w A ans) (k ac : Nat) (hc : ans.length ≤ ac) : AnsAt w (if ac = k then A else A.map (fun x => x.add k)) (ans.drop k) := by
 intro i hi
 rw [List.length_drop] at hi
 obtain ⟨ad, e, hb, hcell⟩ := h (k + i) (by omega)
 rw [if_neg (by omega), e]
 refine ⟨ad.add k, rfl, by rw [add_block]; exact hb, ?_⟩
 have e1 : (ans.drop k).getD i 0 = ans.getD (k + i) 0 := by simp [List.getD_eq_getElem?_getD, List.getElem?_drop]
 rw [e1, ← hcell]
 congr 1
 unfold Addr.add
 by_cases hk : k = 0 <;> by_cases hi0 : i = 0 <;> simp [hk, hi0, Nat.add_assoc]
theorem xload {P : Program} {a : Act} {o : Oper} {w : World} {t : TypeId} (x : Operand) (ho : o.op = .load t x) (p : Addr) (hx : a.eval x = .pointer (some p)) (v : Value) (hv : (loadVar t p).run P w = .ok v w) : (execOp a.eval o).run P w = .ok (.value v) w := by
 unfold execOp
 simp only [ho, hx, Instr.loadAt, Instr.sureAddr, Sem.run_bind, Sem.run_pure, Result.andThen_ok, hv]
theorem runv_h8 : ∀ (k : Nat) (c : List Int) (f : Nat → Nat) (ans : List Int), ∀ x ∈ (runv k c f ans).2.2.1, x.length = 8
 | 0, c, f, ans => by intro x hx; simp [runv] at hx
 | k + 1, c, f, ans => by
  obtain ⟨z, hz⟩ : ∃ z, stepv c f = z := ⟨_, rfl⟩
  obtain ⟨d, g, e⟩ := z
  by_cases h0 : e = 0
  ·subst h0
   rw [run_on k c f ans d g hz]
   exact runv_h8 k d g ans
  by_cases h1 : e = 1
  ·subst h1
   cases ans with
   | nil =>
    rw [run_last k c f d g hz]
    intro x hx
    simp only [List.mem_singleton] at hx
    rw [hx]
    rfl
   | cons a rest =>
    rw [run_call k c f a rest d g hz]
    intro x hx
    have e2 : (gl [callv d] 1 (runv k (d.set 10 a) g rest)).2.2.1 = callv d :: (runv k (d.set 10 a) g rest).2.2.1 := rfl
    rw [e2, List.mem_cons] at hx
    rcases hx with hx | hx
    ·rw [hx]
     rfl
    ·exact runv_h8 k (d.set 10 a) g rest x hx
  ·rw [run_stop k c f ans d g e hz h0 h1]
   intro x hx
   simp at hx
set_option maxHeartbeats 8000000 in
theorem walk_CpuParts (z : Wd) (cut : Int) (w : World) (hz : WdOk w z) (hz2 : z.ans.length ≤ z.ac) (q0 : (Lit.int .i64 cut).wf = true) : Calls Try.prog 7 #[.agg (wv z), .int .i64 cut] w fun e w' => e = .returned (.bool true) ∧ Below w.heap.size w w' := by
 clear q0
 have hl := hz.wc.len
 have HZ := Lib.hid hz
 have HZ2 := Lib.hid hz2
 have hb0 : Below w.heap.size w (w.alloc (.cells (wv z) 34)) := (Below.refl _ w).alloc (Nat.le_refl _) _
 have HLD := Lib.hid (Laid_calls z (w.alloc (.cells (wv z) 34)) ⟨hz.wc, hz.hA, hz.hB, hz.hS, hz.hT, hz.ans.below hb0, hz.rng, hz.len, hz.fuel⟩)
 have HAL := Lib.hid (Nat.lt_of_le_of_lt hz.len (Nat.lt_trans reachBytes_lt (by decide)) : z.ans.length < 4611686018427387904)
 obtain ⟨v33, v34, v35, v36, v37, v38⟩ := wv_at z hl
 have V37 := Lib.hid v37
 have V38 := Lib.hid v38
 obtain ⟨J, hJ, hJ15⟩ := i64_and65535 cut
 have HJ := Lib.hid hJ
 clear v33 v34 v35 v36 v37 v38 hz hb0 hJ hz2
 go_enter Try.func7, Try.ntmps7
 go_wp2_with (first | refine ldW rfl _ rfl _ rfl z (0, 0) (heap_alloc_new _ _) hl ?_ | (go_at_call 12; refine hold_ ?_))
 intro _
 refine HLD.out.mono ?_
 rintro e wa ⟨p, bl, q, n, f, l, rfl, hn, T0⟩
 have k0 : wa.heap[w.heap.size]? = some (.cells (wv z) 34 (0, 0)) := (T0.bel.block _ (by simp)).trans (heap_alloc_new _ _)
 have hB : Below w.heap.size w wa := ((Below.refl _ w).alloc (Nat.le_refl _) _).trans (T0.bel.mono (by simp))
 have hblw : w.heap.size < bl := by have := T0.hb; simp at this; omega
 have hza : w.heap.size + 1 ≤ wa.heap.size := by have := T0.bel.size; simpa using this
 have HM := Lib.hid T0.mem
 have K0 := Lib.hid k0
 have HB := Lib.hid hB
 have hpl := T0.mem.lt
 have hbll := T0.mem.map.lt
 clear T0 k0 hB HLD
 have x38 := (cellOf K0.out 38).trans V38.out
 have hz0 : w.heap.size < wa.heap.size := by omega
 go_wp2_with (go_at_call 19; refine hold_ ?_)
 intro _
 refine (Mm.Copy_calls p bl n f wa HM.out).mono ?_
 rintro e wb ⟨rfl, hm2, hm1, hg⟩
 have HM1 := Lib.hid hm1
 have HM2 := Lib.hid hm2
 have K01 := Lib.hid (rowB K0.out (belowE hg))
 have HB1 := Lib.hid (belowN HB.out hg)
 have hzb := hg.size
 have hp2l := hm2.lt
 obtain ⟨b2, hb2⟩ : ∃ b2, b2 = wa.heap.size := ⟨_, rfl⟩
 obtain ⟨p2, hp2⟩ : ∃ p2, p2 = wa.heap.size + 1 := ⟨_, rfl⟩
 rw [← hp2, ← hb2] at HM2
 rw [← hp2] at hp2l ⊢
 have hb2w : wa.heap.size ≤ b2 := by omega
 have hb2p : b2 < p2 := by omega
 clear hm1 hm2 hg HM K0 HB x38 hz0 hb2 hp2
 have x37 := (cellOf K01.out 37).trans V37.out
 have x38 := (cellOf K01.out 38).trans V38.out
 have hz0 : w.heap.size < wb.heap.size := by omega
 have hJe := HJ.out
 have hN1 : IntKind.i64.wrap (max 0 (min z.fuel 60) + 1) = max 0 (min z.fuel 60) + 1 := by rw [IntKind.wrap_i64]; omega
 have hN0 : ¬ max 0 (min z.fuel 60) + 1 = 0 := by omega
 go_wp2_with (first | refine ldS rfl _ rfl _ rfl z _ (0, 0) K01.out hl ?_ | (go_at_call 13; refine hold_ ?_))
 intro _
 obtain ⟨N, hN⟩ : ∃ N : Nat, max 0 (min z.fuel 60) = (N : Int) := ⟨(max 0 (min z.fuel 60)).toNat, by omega⟩
 rw [hN]
 obtain ⟨K, hK⟩ : ∃ K : Nat, (J : Int) % ((N : Int) + 1) = (K : Int) := ⟨((J : Int) % ((N : Int) + 1)).toNat, (Int.toNat_of_nonneg (Int.emod_nonneg _ (by omega))).symm⟩
 rw [hK]
 have hKN : K ≤ N := by
  have := Int.emod_lt_of_pos (J : Int) (show (0 : Int) < (N : Int) + 1 by omega)
  omega
 have hN60 : N ≤ 60 := by omega
 obtain ⟨T1, hT1⟩ : ∃ T1, T1 = runv N (z.c.set 0 0) f z.ans := ⟨_, rfl⟩
 clear hN hK hJe hN1 hN0 x38 HJ
 refine (Run_calls z.c HZ.out.wc p bl n f wb HM1.out (by omega) z.an z.ac z.ans (HZ.out.ans.below HB1.out) HZ.out.rng HAL.out (N : Int) (by omega) T1 hT1).mono ?_
 rintro e w3 ⟨v1, rfl, hown, ⟨n1, hn1, hm1⟩, hg⟩
 obtain ⟨o1, cp1, rfl, -⟩ := own_optK hown
 have hfl := HM1.out.map.2.1
 have hld1 : T1.1.length = 33 := by
  have := runv_len N (z.c.set 0 0) f z.ans hfl HZ.out.rng (HZ.out.wc.set 0 0 (by omega))
  rw [← hT1] at this
  exact this
 have hal : Below w3.heap.size w3 (w3.alloc (.cells (cv T1.1) 25)) := (Below.refl _ _).alloc (Nat.le_refl _) _
 have HM1' := Lib.hid (hm1.below hal)
 have HM2' := Lib.hid ((HM2.out.other hg (by omega) (by omega)).below hal)
 have K03 := Lib.hid (rowB (rowG K01.out hg (by omega)) hal)
 have HB3 := Lib.hid (belowS hal (belowG HB1.out hg (by omega)))
 have K10 := Lib.hid (heap_alloc_new w3 (.cells (cv T1.1) 25))
 have HO1 := Lib.hid (hown.kept' (grownB hal none) (by rintro k ⟨⟩))
 have hz3 := hg.size
 have hz32 : (w3.alloc (.cells (cv T1.1) 25)).heap.size = w3.heap.size + 1 := by simp
 have HFL := Lib.hid hfl
 have HT1 := Lib.hid hT1
 have hn1 : n1 ≤ n + 4 * N := hn1
 clear hown hg hal HM1 HM2 K01 HB1 x37 hz0 hfl hT1 hm1
 have HM1 := HM1'
 have HM2 := HM2'
 clear HM1' HM2'
 have x37 := (cellOf K03.out 37).trans V37.out
 have hz0 : w.heap.size < (w3.alloc (.cells (cv T1.1) 25)).heap.size := by omega
 go_wp2_with (first | refine alC rfl rfl ?_ | refine stN rfl _ _ rfl _ rfl rfl zs hld1 rfl ?_ | refine ldS rfl _ rfl _ rfl z _ (0, 0) K03.out hl ?_ | (go_at_call 13; refine hold_ ?_))
 intro _
 obtain ⟨g10, hg10⟩ : ∃ g10, g10 = w3.heap.size := ⟨_, rfl⟩
 generalize (w3.alloc (.cells (cv T1.1) 25)) = w5 at *
 rw [← hg10] at K10 hz3 hz32 ⊢
 clear hg10
 obtain ⟨T2, hT2⟩ : ∃ T2, T2 = runv K (z.c.set 0 0) f z.ans := ⟨_, rfl⟩
 refine (Run_calls z.c HZ.out.wc p2 b2 n f w5 HM2.out (by omega) z.an z.ac z.ans (HZ.out.ans.below HB3.out) HZ.out.rng HAL.out (K : Int) (by omega) T2 hT2).mono ?_
 rintro e w6 ⟨v2, rfl, hown, ⟨n2, hn2, hm2⟩, hg⟩
 obtain ⟨o2, cp2, rfl, -⟩ := own_optK hown
 have hwd2 : Wc T2.1 := by
  have := runv_wc K (z.c.set 0 0) f z.ans HFL.out HZ.out.rng (HZ.out.wc.set 0 0 (by omega))
  rw [← hT2] at this
  exact this
 have hld2 := hwd2.len
 have hrz : reg T2.1 0 = 0 := by
  have := runv_zero K (z.c.set 0 0) f z.ans HFL.out HZ.out.rng (HZ.out.wc.set 0 0 (by omega)) (reg_set0 _)
  rw [← hT2] at this
  exact this
 have hfx : ∀ x, T2.2.1 x < 256 := by
  have := runv_lt K (z.c.set 0 0) f z.ans HFL.out
  rw [← hT2] at this
  exact this
 have h8a : ∀ x ∈ T1.2.2.1, x.length = 8 := by rw [HT1.out]; exact runv_h8 _ _ _ _
 have h8b : ∀ x ∈ T2.2.2.1, x.length = 8 := by rw [hT2]; exact runv_h8 _ _ _ _
 have hfa := runv_facts K (z.c.set 0 0) f z.ans
 rw [← hT2] at hfa
 have hfb := runv_facts N (z.c.set 0 0) f z.ans
 rw [← HT1.out] at hfb
 have hpa := runv_parts K (N - K) (z.c.set 0 0) f z.ans
 rw [show K + (N - K) = N by omega, ← hT2, ← HT1.out] at hpa
 have hal : Below w6.heap.size w6 (w6.alloc (.cells (cv T2.1) 25)) := (Below.refl _ _).alloc (Nat.le_refl _) _
 have HM2' := Lib.hid (hm2.below hal)
 have HM1' := Lib.hid ((HM1.out.other hg (by omega) (by omega)).below hal)
 have K04 := Lib.hid (rowB (rowG K03.out hg (by omega)) hal)
 have HB4 := Lib.hid (belowS hal (belowG HB3.out hg (by omega)))
 have K10' := Lib.hid (rowB (rowG K10.out hg (by omega)) hal)
 have K14 := Lib.hid (heap_alloc_new w6 (.cells (cv T2.1) 25))
 have HO1' := Lib.hid ((HO1.out.kept' hg (by rintro k ⟨⟩; omega)).kept' (grownB hal none) (by rintro k ⟨⟩))
 have HO2 := Lib.hid (hown.kept' (grownB hal none) (by rintro k ⟨⟩))
 have hz6 := hg.size
 have hz62 : (w6.alloc (.cells (cv T2.1) 25)).heap.size = w6.heap.size + 1 := by simp
 have hn2 : n2 ≤ n + 4 * K := hn2
 have HPA := Lib.hid hpa
 have HFA := Lib.hid hfa
 have HFB := Lib.hid hfb
 have HWD := Lib.hid hwd2
 have HRZ := Lib.hid hrz
 have HFX := Lib.hid hfx
 have H8A := Lib.hid h8a
 have H8B := Lib.hid h8b
 clear hown hg hal HM1 HM2 K03 K10 HO1 HB3 x37 hz0 hT2 hm2 hpa hfa hfb HT1 HFL hwd2 hrz hfx h8a h8b
 have HM1 := HM1'
 have HM2 := HM2'
 have K10 := K10'
 have HO1 := HO1'
 clear HM1' HM2' K10' HO1'
 have HF := Lib.hid fixed_calls
 by_cases h6 : T2.2.2.2.1 = 6
 ·have hE := HPA.out
  rw [if_pos h6] at hE
  obtain ⟨d, f2, os, e2, s2⟩ := T2
  simp only at h6 hE HM2 K14 HO2 H8B HFA HWD HRZ HFX hld2 K04 HB4 hz62 K10 HM1 HO1
  subst h6
  obtain ⟨U, hU⟩ : ∃ U, U = runv (N - K) d f2 (z.ans.drop os.length) := ⟨_, rfl⟩
  rw [← hU] at hE
  have hrd : ∀ i, 0 ≤ (z.ans.drop os.length).getD i 0 ∧ (z.ans.drop os.length).getD i 0 < 4294967296 := fun i => by
   have := HZ.out.rng (os.length + i)
   simpa [List.getD_eq_getElem?_getD, List.getElem?_drop] using this
  obtain ⟨c1, f1, qs, e1, u⟩ := U
  have hE : T1 = (c1, f1, os ++ qs, e1, u + K) := hE
  subst hE
  simp only at HM1 K10 HO1 hld1 H8A HFB
  obtain ⟨hq1, hq2, hq3, hq4, hq5⟩ := HFA.out
  have hs2 : s2 = K := hq4 rfl
  have hos : os.length ≤ z.ans.length := by
   have : ¬ os.length = z.ans.length + 1 := fun e => absurd (hq3.2 e) (by decide)
   omega
  subst hs2
  have HRD := Lib.hid hrd
  have HU := Lib.hid hU
  clear HPA HFA hq1 hq2 hq3 hq4 hq5 hrd hU
  go_wp2_with (first | ((with_reducible refine gate_dst (N := 98) rfl ?_); refine hold_ ?_) | refine alC rfl rfl ?_ | refine stN rfl _ _ rfl _ rfl rfl zs hld2 rfl ?_)
  intro _
  obtain ⟨g14, hg14⟩ : ∃ g14, g14 = w6.heap.size := ⟨_, rfl⟩
  generalize (w6.alloc (.cells (cv d) 25)) = w7 at *
  rw [← hg14] at K14 hz6 hz62 ⊢
  clear hg14
  have x37 := (cellOf K04.out 37).trans V37.out
  have hz0 : w.heap.size < w7.heap.size := by omega
  have hzg : g14 < w7.heap.size := by omega
  have hz5 : w5.heap.size ≤ w7.heap.size := by omega
  have hbg : b2 < g14 := by omega
  clear hz62 hz6
  have i2 : ¬ (os.length : Int) > (z.ans.length : Int) := by omega
  have i2m : ¬ z.ans.length < os.length := by omega
  have han2 : z.ans.length < 4611686018427387904 := HAL.out
  go_wp2
  refine wp_region_held_drew (S := fun w' => w'.heap[g14]? = some (.cells (cv d) 25 (0, 0)) ∧ w'.cell? ⟨w.heap.size, 37, none⟩ = some (.slice z.an z.ans.length z.ac)) (by kernel_rfl) ⟨K14.out, x37⟩ (fun hHeld => ?_)
  refine rh_take (i := 0) (k := 104) (v := .agg (cv d)) rfl rfl (by kernel_rfl) (by kernel_rfl) (by kernel_rfl) (fun _ _ _ h => h) (Or.inl ⟨by rfl, fun w hSw => xload _ rfl _ rfl _ (loadC w g14 d (0, 0) hSw.1 hld2)⟩) hHeld ?_
  simp only [Act.put, List.setIfInBounds_toArray, List.set_cons_zero, List.set_cons_succ]
  refine rh_take (i := 1) (k := 105) (v := ?_) rfl rfl (by kernel_rfl) (by kernel_rfl) (by kernel_rfl) (fun _ _ _ h => h) (Or.inl ⟨by rfl, ?_⟩) hHeld ?_
  rotate_left
  ·(intro w hSw; obtain ⟨s0, s1⟩ := hSw; go_simp; try with_reducible rfl)
  simp only [Act.put, List.setIfInBounds_toArray, List.set_cons_zero, List.set_cons_succ]
  refine rh_take (i := 2) (k := 106) (v := ?_) rfl rfl (by kernel_rfl) (by kernel_rfl) (by kernel_rfl) (fun _ _ _ h => h) (Or.inl ⟨by rfl, ?_⟩) hHeld ?_
  rotate_left
  ·(intro w hSw; obtain ⟨s0, s1⟩ := hSw; go_simp; try with_reducible rfl)
  simp only [Act.put, List.setIfInBounds_toArray, List.set_cons_zero, List.set_cons_succ]
  refine rh_take (i := 3) (k := 107) (v := ?_) rfl rfl (by kernel_rfl) (by kernel_rfl) (by kernel_rfl) (fun _ _ _ h => h) (Or.inl ⟨by rfl, ?_⟩) hHeld ?_
  rotate_left
  ·(intro w hSw; obtain ⟨s0, s1⟩ := hSw; go_simp; try with_reducible rfl)
  simp only [Act.put, List.setIfInBounds_toArray, List.set_cons_zero, List.set_cons_succ]
  refine rh_take (i := 4) (k := 108) (v := ?_) rfl rfl (by kernel_rfl) (by kernel_rfl) (by kernel_rfl) (fun _ _ _ h => h) (Or.inl ⟨by rfl, ?_⟩) hHeld ?_
  rotate_left
  ·(intro w hSw; obtain ⟨s0, s1⟩ := hSw; go_simp; try with_reducible rfl)
  simp only [Act.put, List.setIfInBounds_toArray, List.set_cons_zero, List.set_cons_succ]
  refine rh_take (i := 5) (k := 109) (v := ?_) rfl rfl (by kernel_rfl) (by kernel_rfl) (by kernel_rfl) (fun _ _ _ h => h) (Or.inl ⟨by rfl, ?_⟩) hHeld ?_
  rotate_left
  ·(intro w hSw; obtain ⟨s0, s1⟩ := hSw; go_simp; try with_reducible rfl)
  simp only [Act.put, List.setIfInBounds_toArray, List.set_cons_zero, List.set_cons_succ]
  refine rh_take (i := 6) (k := 110) (v := ?_) rfl rfl (by kernel_rfl) (by kernel_rfl) (by kernel_rfl) (fun _ _ _ h => h) (Or.inl ⟨by rfl, ?_⟩) hHeld ?_
  rotate_left
  ·(intro w hSw; obtain ⟨s0, s1⟩ := hSw; go_simp; try with_reducible rfl)
  simp only [Act.put, List.setIfInBounds_toArray, List.set_cons_zero, List.set_cons_succ]
  refine rh_take (i := 7) (k := 111) (v := ?_) rfl rfl (by kernel_rfl) (by kernel_rfl) (by kernel_rfl) (fun _ _ _ h => h) (Or.inl ⟨by rfl, ?_⟩) hHeld ?_
  rotate_left
  ·(intro w hSw; obtain ⟨s0, s1⟩ := hSw; go_simp; try with_reducible rfl)
  simp only [Act.put, List.setIfInBounds_toArray, List.set_cons_zero, List.set_cons_succ]
  refine rh_take (i := 8) (k := 112) (v := ?_) rfl rfl (by kernel_rfl) (by kernel_rfl) (by kernel_rfl) (fun _ _ _ h => h) (Or.inl ⟨by rfl, ?_⟩) hHeld ?_
  rotate_left
  ·(intro w hSw; obtain ⟨s0, s1⟩ := hSw; go_simp; try with_reducible rfl)
  simp only [Act.put, List.setIfInBounds_toArray, List.set_cons_zero, List.set_cons_succ]
  refine rh_take (i := 9) (k := 113) (v := ?_) rfl rfl (by kernel_rfl) (by kernel_rfl) (by kernel_rfl) (fun _ _ _ h => h) (Or.inl ⟨by rfl, ?_⟩) hHeld ?_
  rotate_left
  ·(intro w hSw; obtain ⟨s0, s1⟩ := hSw; go_simp; try with_reducible rfl)
  simp only [Act.put, List.setIfInBounds_toArray, List.set_cons_zero, List.set_cons_succ]
  have hat := dropAt (HZ.out.ans.below HB4.out) os.length z.ac HZ2.out
  generalize (if z.ac = os.length then z.an else Option.map (fun x => x.add os.length) z.an) = A2 at hat ⊢
  have HAT := Lib.hid hat
  clear hat
  refine twoWays (R := ?RR) (F := fun g o cp W => W.heap[g]? = some (.cells (cv c1) 25 (0, 0)) ∧ OwnK W w7.heap.size (.slice o qs.length cp) qs ∧ (∃ n3, n3 ≤ 2000 ∧ Mm.MemAt W p2 b2 n3 f1) ∧ w7.grownBy W (some b2)) (fun H => ?one) ?two
  case one =>
   refine wpAnyH_ready (rs := [10, 16]) (by kernel_rfl) (by simp) ?_
   refine AllReadyH.cons (i := 10) rfl (fun KA hKA => ?_) (AllReadyH.cons (i := 16) rfl (fun KB hKB => ?_) AllReadyH.nil)
   ·go_simp
    have hb0 : Below w7.heap.size w7 w7.drew := (Below.refl _ w7).drew
    rw [show z.ans.length - os.length = (z.ans.drop os.length).length from List.length_drop.symm]
    refine (Run_calls d HWD.out p2 b2 n2 f2 w7.drew (HM2.out.below hb0) (by omega) _ _ (z.ans.drop os.length) (HAT.out.below hb0) HRD.out (by rw [List.length_drop]; exact Nat.lt_of_le_of_lt (Nat.sub_le _ _) HAL.out) _ (by rw [IntKind.wrap_i64]; omega) (c1, f1, qs, e1, u) (by rw [HU.out, set0_id d HRZ.out, IntKind.wrap_i64]; congr 1; omega)).mono ?_
    rintro e w8 ⟨v3, rfl, hown, ⟨n3, hn3, hm3⟩, hg⟩
    obtain ⟨o3, cp3, rfl, -⟩ := own_optK hown
    have hg7 : w7.grownBy w8 (some b2) := grown_trans (grownB hb0 (some b2)) hg
    have hn3' : n3 ≤ 2000 := by
     rw [IntKind.wrap_i64] at hn3
     omega
    go_wp2_with fail
    refine hKA.out _ _ ⟨rowG K14.out hg7 (by omega), (cellOf (rowG K04.out hg7 (by omega)) 37).trans V37.out⟩ (fun hHeld => ?_)
    clear hKA KA
    try simp only [Act.put, List.setIfInBounds_toArray, List.set_cons_zero, List.set_cons_succ]
    refine rh_take (i := 11) (k := 103) (v := ?_) rfl rfl (by kernel_rfl) (by kernel_rfl) (by kernel_rfl) (fun _ _ _ h => h) (Or.inl ⟨by rfl, ?_⟩) hHeld ?_
    rotate_left
    ·(intro w hSw; obtain ⟨s0, s1⟩ := hSw; go_simp; try with_reducible rfl)
    simp only [Act.put, List.setIfInBounds_toArray, List.set_cons_zero, List.set_cons_succ]
    refine rh_take (i := 12) (k := 115) (v := ?_) rfl rfl (by kernel_rfl) (by kernel_rfl) (by kernel_rfl) (fun _ _ _ h => h) (Or.inl ⟨by rfl, ?_⟩) hHeld ?_
    rotate_left
    ·(intro w hSw; obtain ⟨s0, s1⟩ := hSw; go_simp; try with_reducible rfl)
    simp only [Act.put, List.setIfInBounds_toArray, List.set_cons_zero, List.set_cons_succ]
    refine rh_take (i := 13) (k := 116) (v := ?_) rfl rfl (by kernel_rfl) (by kernel_rfl) (by kernel_rfl) (fun _ _ _ h => h) (Or.inl ⟨by rfl, ?_⟩) hHeld ?_
    rotate_left
    ·(intro w hSw; obtain ⟨s0, s1⟩ := hSw; go_simp; try with_reducible rfl)
    simp only [Act.put, List.setIfInBounds_toArray, List.set_cons_zero, List.set_cons_succ]
    refine rh_take (i := 14) (k := 117) (v := ?_) rfl rfl (by kernel_rfl) (by kernel_rfl) (by kernel_rfl) (fun _ _ _ h => h) (Or.inl ⟨by rfl, ?_⟩) hHeld ?_
    rotate_left
    ·(intro w hSw; obtain ⟨s0, s1⟩ := hSw; go_simp; try with_reducible rfl)
    simp only [Act.put, List.setIfInBounds_toArray, List.set_cons_zero, List.set_cons_succ]
    refine rh_take (i := 15) (k := 118) (v := ?_) rfl rfl (by kernel_rfl) (by kernel_rfl) (by kernel_rfl) (fun _ _ _ h => h) (Or.inl ⟨by rfl, ?_⟩) hHeld ?_
    rotate_left
    ·(intro w hSw; obtain ⟨s0, s1⟩ := hSw; go_simp; try with_reducible rfl)
    simp only [Act.put, List.setIfInBounds_toArray, List.set_cons_zero, List.set_cons_succ]
    refine wpAnyH_ready (rs := [16]) (by kernel_rfl) (by simp) ?_
    refine AllReadyH.cons (i := 16) rfl (fun KA hKA => ?_) AllReadyH.nil
    go_simp
    obtain ⟨g18, hg18⟩ : ∃ g18, g18 = w8.heap.size := ⟨_, rfl⟩
    have hz8 : w7.heap.size ≤ g18 := by rw [hg18]; exact hg7.size
    refine absK (F := fun W => W = w8.alloc (.cells (cv zs) 25)) rfl ?_
    rintro W8 hW8
    rw [← hg18]
    have k18 : W8.heap[g18]? = some (.cells (cv zs) 25 (0, 0)) := by rw [hW8, hg18]; exact heap_alloc_new _ _
    have hb8 : Below w8.heap.size w8 W8 := by rw [hW8]; exact (Below.refl _ w8).alloc (Nat.le_refl _) _
    have hg8 : w7.grownBy W8 (some b2) := grown_below hg7 hb8
    have ho8 : OwnK (W8.setRow g18 (cv c1)) w7.heap.size (.slice o3 qs.length cp3) qs := by
     have h1 : OwnK W8 w7.heap.size (.slice o3 qs.length cp3) qs := hown.kept' (grownB hb8 none) (by rintro k ⟨⟩)
     refine World.ownsRow.kept h1 (grown_row _ _ _) ?_
     cases hv : (Value.slice o3 qs.length cp3).ownBlock with
     | none => exact Or.inl rfl
     | some k =>
      refine Or.inr (fun e => ?_)
      have := (World.ownsRow.lt hown k hv).2
      injection e with e
      omega
    have hm8 := hm3.below hb8
    clear hW8 hg18
    refine hKA.out _ _ ⟨rowG K14.out hg8 (by omega), (cellOf (rowG K04.out hg8 (by omega)) 37).trans V37.out⟩ (fun hHeld => ?_)
    clear hKA KA
    try simp only [Act.put, List.setIfInBounds_toArray, List.set_cons_zero, List.set_cons_succ]
    refine wpAnyH_ready (rs := [17]) (by kernel_rfl) (by simp) ?_
    refine AllReadyH.cons (i := 17) rfl (fun KA hKA => ?_) AllReadyH.nil
    rw [if_pos (by rfl)]
    refine wp_store_row 25 _ _ rfl g18 (cv c1) rfl rfl 25 (cv zs) k18 (infoC.trans (by rw [cv_size, hld1])) (by rw [cv_size, cv_size, hld1]; rfl) (cv_one c1) ?_
    refine absK (F := fun W => W.heap[g18]? = some (.cells (cv c1) 25 (0, 0)) ∧ OwnK W w7.heap.size (.slice o3 qs.length cp3) qs ∧ (∃ n3, n3 ≤ 2000 ∧ Mm.MemAt W p2 b2 n3 f1) ∧ w7.grownBy W (some b2)) ⟨setRow_heap _ _ _ _ _ _ k18, ho8, ⟨n3, hn3', mem_setRow hm8 (by omega) (by omega) _⟩, grown_setRow hg8 hz8 _⟩ ?_
    rintro W9 hF9
    obtain ⟨k9, -, -, hg9⟩ := id hF9
    refine hKA.out _ _ ⟨rowG K14.out hg9 (by omega), (cellOf (rowG K04.out hg9 (by omega)) 37).trans V37.out⟩ (fun hHeld => ?_)
    clear hKA KA
    try simp only [Act.put, List.setIfInBounds_toArray, List.set_cons_zero, List.set_cons_succ]
    refine rh_take (i := 18) (k := 19) (v := ?_) rfl rfl (by kernel_rfl) (by kernel_rfl) (by kernel_rfl) (fun _ _ _ h => h) (Or.inl ⟨by rfl, ?_⟩) hHeld ?_
    rotate_left
    ·(intro w hSw; obtain ⟨s0, s1⟩ := hSw; go_simp; try with_reducible rfl)
    simp only [Act.put, List.setIfInBounds_toArray, List.set_cons_zero, List.set_cons_succ]
    refine rh_take (i := 19) (k := 20) (v := ?_) rfl rfl (by kernel_rfl) (by kernel_rfl) (by kernel_rfl) (fun _ _ _ h => h) (Or.inl ⟨by rfl, ?_⟩) hHeld ?_
    rotate_left
    ·(intro w hSw; obtain ⟨s0, s1⟩ := hSw; go_simp; try with_reducible rfl)
    simp only [Act.put, List.setIfInBounds_toArray, List.set_cons_zero, List.set_cons_succ]
    refine rh_take (i := 20) (k := 21) (v := ?_) rfl rfl (by kernel_rfl) (by kernel_rfl) (by kernel_rfl) (fun _ _ _ h => h) (Or.inl ⟨by rfl, ?_⟩) hHeld ?_
    rotate_left
    ·(intro w hSw; obtain ⟨s0, s1⟩ := hSw; go_simp; try with_reducible rfl)
    simp only [Act.put, List.setIfInBounds_toArray, List.set_cons_zero, List.set_cons_succ]
    refine wpAnyH_done (by kernel_rfl) ?_ _
    exact H g18 o3 cp3 W9 hF9
   ·go_simp
    obtain ⟨g18, hg18⟩ : ∃ g18, g18 = w7.heap.size := ⟨_, rfl⟩
    refine absK (F := fun W => W = w7.drew.alloc (.cells (cv zs) 25)) rfl ?_
    rintro W8 hW8
    rw [← hg18]
    have k17 : W8.heap[g18]? = some (.cells (cv zs) 25 (0, 0)) := by rw [hW8, hg18]; exact heap_alloc_new w7.drew _
    have hb0 : Below w7.heap.size w7 W8 := by rw [hW8]; exact (Below.refl _ w7).drew.alloc (Nat.le_refl _) _
    have hz8 : w7.heap.size ≤ g18 := by omega
    have hzz : g18 < W8.heap.size := by rw [hW8, hg18]; simp
    clear hW8
    refine hKB.out _ _ ⟨rowB K14.out hb0, (cellOf (rowB K04.out hb0) 37).trans V37.out⟩ (fun hHeld => ?_)
    clear hKB KB hg18
    try simp only [Act.put, List.setIfInBounds_toArray, List.set_cons_zero, List.set_cons_succ]
    refine wpAnyH_ready (rs := [10]) (by kernel_rfl) (by simp) ?_
    refine AllReadyH.cons (i := 10) rfl (fun KA hKA => ?_) AllReadyH.nil
    go_simp
    rw [show z.ans.length - os.length = (z.ans.drop os.length).length from List.length_drop.symm]
    refine (Run_calls d HWD.out p2 b2 n2 f2 W8 (HM2.out.below hb0) (by omega) _ _ (z.ans.drop os.length) (HAT.out.below hb0) HRD.out (by rw [List.length_drop]; exact Nat.lt_of_le_of_lt (Nat.sub_le _ _) HAL.out) _ (by rw [IntKind.wrap_i64]; omega) (c1, f1, qs, e1, u) (by rw [HU.out, set0_id d HRZ.out, IntKind.wrap_i64]; congr 1; omega)).mono ?_
    rintro e w8 ⟨v3, rfl, hown, ⟨n3, hn3, hm3⟩, hg⟩
    obtain ⟨o3, cp3, rfl, -⟩ := own_optK hown
    have hg7 : w7.grownBy w8 (some b2) := grown_trans (grownB hb0 (some b2)) hg
    have hn3' : n3 ≤ 2000 := by
     rw [IntKind.wrap_i64] at hn3
     omega
    go_wp2_with fail
    refine hKA.out _ _ ⟨rowG K14.out hg7 (by omega), (cellOf (rowG K04.out hg7 (by omega)) 37).trans V37.out⟩ (fun hHeld => ?_)
    clear hKA KA
    try simp only [Act.put, List.setIfInBounds_toArray, List.set_cons_zero, List.set_cons_succ]
    refine rh_take (i := 11) (k := 103) (v := ?_) rfl rfl (by kernel_rfl) (by kernel_rfl) (by kernel_rfl) (fun _ _ _ h => h) (Or.inl ⟨by rfl, ?_⟩) hHeld ?_
    rotate_left
    ·(intro w hSw; obtain ⟨s0, s1⟩ := hSw; go_simp; try with_reducible rfl)
    simp only [Act.put, List.setIfInBounds_toArray, List.set_cons_zero, List.set_cons_succ]
    refine rh_take (i := 12) (k := 115) (v := ?_) rfl rfl (by kernel_rfl) (by kernel_rfl) (by kernel_rfl) (fun _ _ _ h => h) (Or.inl ⟨by rfl, ?_⟩) hHeld ?_
    rotate_left
    ·(intro w hSw; obtain ⟨s0, s1⟩ := hSw; go_simp; try with_reducible rfl)
    simp only [Act.put, List.setIfInBounds_toArray, List.set_cons_zero, List.set_cons_succ]
    refine rh_take (i := 13) (k := 116) (v := ?_) rfl rfl (by kernel_rfl) (by kernel_rfl) (by kernel_rfl) (fun _ _ _ h => h) (Or.inl ⟨by rfl, ?_⟩) hHeld ?_
    rotate_left
    ·(intro w hSw; obtain ⟨s0, s1⟩ := hSw; go_simp; try with_reducible rfl)
    simp only [Act.put, List.setIfInBounds_toArray, List.set_cons_zero, List.set_cons_succ]
    refine rh_take (i := 14) (k := 117) (v := ?_) rfl rfl (by kernel_rfl) (by kernel_rfl) (by kernel_rfl) (fun _ _ _ h => h) (Or.inl ⟨by rfl, ?_⟩) hHeld ?_
    rotate_left
    ·(intro w hSw; obtain ⟨s0, s1⟩ := hSw; go_simp; try with_reducible rfl)
    simp only [Act.put, List.setIfInBounds_toArray, List.set_cons_zero, List.set_cons_succ]
    refine rh_take (i := 15) (k := 118) (v := ?_) rfl rfl (by kernel_rfl) (by kernel_rfl) (by kernel_rfl) (fun _ _ _ h => h) (Or.inl ⟨by rfl, ?_⟩) hHeld ?_
    rotate_left
    ·(intro w hSw; obtain ⟨s0, s1⟩ := hSw; go_simp; try with_reducible rfl)
    simp only [Act.put, List.setIfInBounds_toArray, List.set_cons_zero, List.set_cons_succ]
    have k18 := rowG k17 hg (by omega)
    refine wpAnyH_ready (rs := [17]) (by kernel_rfl) (by simp) ?_
    refine AllReadyH.cons (i := 17) rfl (fun KA hKA => ?_) AllReadyH.nil
    rw [if_pos (by rfl)]
    refine wp_store_row 25 _ _ rfl g18 (cv c1) rfl rfl 25 (cv zs) k18 (infoC.trans (by rw [cv_size, hld1])) (by rw [cv_size, cv_size, hld1]; rfl) (cv_one c1) ?_
    refine absK (F := fun W => W.heap[g18]? = some (.cells (cv c1) 25 (0, 0)) ∧ OwnK W w7.heap.size (.slice o3 qs.length cp3) qs ∧ (∃ n3, n3 ≤ 2000 ∧ Mm.MemAt W p2 b2 n3 f1) ∧ w7.grownBy W (some b2)) ⟨setRow_heap _ _ _ _ _ _ k18, OwnK_lower (hown.kept' (grown_row _ _ _) (by rintro k ⟨⟩; omega)) hb0.size, ⟨n3, hn3', mem_setRow hm3 (by omega) (by omega) _⟩, grown_setRow hg7 hz8 _⟩ ?_
    rintro W9 hF9
    obtain ⟨k9, -, -, hg9⟩ := id hF9
    refine hKA.out _ _ ⟨rowG K14.out hg9 (by omega), (cellOf (rowG K04.out hg9 (by omega)) 37).trans V37.out⟩ (fun hHeld => ?_)
    clear hKA KA
    try simp only [Act.put, List.setIfInBounds_toArray, List.set_cons_zero, List.set_cons_succ]
    refine rh_take (i := 18) (k := 19) (v := ?_) rfl rfl (by kernel_rfl) (by kernel_rfl) (by kernel_rfl) (fun _ _ _ h => h) (Or.inl ⟨by rfl, ?_⟩) hHeld ?_
    rotate_left
    ·(intro w hSw; obtain ⟨s0, s1⟩ := hSw; go_simp; try with_reducible rfl)
    simp only [Act.put, List.setIfInBounds_toArray, List.set_cons_zero, List.set_cons_succ]
    refine rh_take (i := 19) (k := 20) (v := ?_) rfl rfl (by kernel_rfl) (by kernel_rfl) (by kernel_rfl) (fun _ _ _ h => h) (Or.inl ⟨by rfl, ?_⟩) hHeld ?_
    rotate_left
    ·(intro w hSw; obtain ⟨s0, s1⟩ := hSw; go_simp; try with_reducible rfl)
    simp only [Act.put, List.setIfInBounds_toArray, List.set_cons_zero, List.set_cons_succ]
    refine rh_take (i := 20) (k := 21) (v := ?_) rfl rfl (by kernel_rfl) (by kernel_rfl) (by kernel_rfl) (fun _ _ _ h => h) (Or.inl ⟨by rfl, ?_⟩) hHeld ?_
    rotate_left
    ·(intro w hSw; obtain ⟨s0, s1⟩ := hSw; go_simp; try with_reducible rfl)
    simp only [Act.put, List.setIfInBounds_toArray, List.set_cons_zero, List.set_cons_succ]
    refine wpAnyH_done (by kernel_rfl) ?_ _
    exact H g18 o3 cp3 W9 hF9
  case two =>
   rintro g18 o3 cp3 w9 ⟨k18, ho9, ⟨n3, hn3, hm9⟩, hg9⟩
   have K10a := Lib.hid (rowG K10.out hg9 (by omega))
   have HO1a := Lib.hid (HO1.out.kept' hg9 (by rintro k ⟨⟩; omega))
   have HO2a := Lib.hid (HO2.out.kept' hg9 (by rintro k ⟨⟩; omega))
   have HM1a := Lib.hid (HM1.out.other hg9 (by omega) (by omega))
   have HM2a := Lib.hid hm9
   have HO3 := Lib.hid ho9
   have HBa := Lib.hid (belowG HB4.out hg9 (by omega))
   have K18 := Lib.hid k18
   have hz9 := hg9.size
   have hq18 : g18 < w9.heap.size := (Array.getElem?_eq_some_iff.1 k18).1
   have hq10 : g10 < w9.heap.size := (Array.getElem?_eq_some_iff.1 K10a.out).1
   clear k18 ho9 hm9 hg9 hHeld hE K10 HO1 HO2 HM1 HM2 HB4 K14 K04 x37 HAT HRD HU hz0 HWD HRZ HFX
   have hlq : os.length + qs.length ≤ 60 := by
    have h1 := HFB.out.1
    have h2 := HFB.out.2.2.2.2
    rw [List.length_append] at h1
    omega
   have H8q : Hid (∀ x ∈ qs, x.length = 8) := Lib.hid (fun x hx => H8A.out x (List.mem_append_right _ hx))
   have hus : u + s2 ≤ 60 := by
    have h2 := HFB.out.2.2.2.2
    omega
   clear HFB
   go_wp2_with (at_builtin; refine hold_ ?_)
   intro _
   have hba : Below w9.heap.size w9 (w9.alloc (.cells #[] 67)) := (Below.refl _ w9).alloc (Nat.le_refl _) _
   have hlit : OwnK (w9.alloc (.cells #[] 67)) w9.heap.size (.slice (some ⟨w9.heap.size, 0, none⟩) 0 0) [] := World.ownsRow_lit w9 #[] 0 (Nat.le_refl _) (by unfold maxLen; omega) rfl
   refine wp_appK2 rfl _ _ rfl w9.heap.size w5.heap.size _ _ [] os H8B.out rfl hlit rfl (HO2a.out.kept' (grownB hba none) (by rintro k ⟨⟩)) (by simp) (by omega) hba.size ?_
   intro v6 w10 h6 hg6
   have hbw := belowO hba hlit hg6
   rw [List.nil_append] at h6
   obtain ⟨o6, cp6, rfl, -⟩ := own_optK h6
   have HO3b := Lib.hid (HO3.out.kept' (grownB hbw none) (by rintro k ⟨⟩))
   have HO6 := Lib.hid h6
   have hzw := hbw.size
   have HBW := Lib.hid hbw
   clear h6 hg6 hba hlit hbw HO2a HO3 H8B
   go_wp2_with (at_builtin; refine hold_ ?_)
   intro _
   refine wp_appK2 rfl _ _ rfl w9.heap.size w7.heap.size _ _ os qs H8q.out rfl HO6.out rfl HO3b.out (by omega) (by omega) hzw ?_
   intro v7 w11 h7 hg7
   have hbx : Below w9.heap.size w9 w11 := belowO HBW.out HO6.out hg7
   obtain ⟨o7, cp7, rfl, -⟩ := own_optK h7
   rw [List.length_append] at h7 ⊢
   have K10c := Lib.hid (rowB K10a.out hbx)
   have K18c := Lib.hid (rowB K18.out hbx)
   have HO1c := Lib.hid (HO1a.out.kept' (grownB hbx none) (by rintro k ⟨⟩))
   have HM1c := Lib.hid (HM1a.out.below hbx)
   have HM2c := Lib.hid (HM2a.out.below hbx)
   have HBc := Lib.hid (belowS hbx HBa.out)
   have hzx := hbx.size
   rw [List.length_append] at HO1c
   have HSM := Lib.hid (KSame_calls wb.heap.size w9.heap.size (.slice o1 (os.length + qs.length) cp1) (.slice o7 (os.length + qs.length) cp7) (os ++ qs) H8A.out w11 HO1c.out h7 (by rw [List.length_append]; omega))
   have heq := fun w => eqB c1 hld1 w
   have hadd : IntKind.i64.wrap ((s2 : Int) + (u : Int)) = (u : Int) + (s2 : Int) := by rw [IntKind.wrap_i64]; omega
   clear h7 hg7 hbx K10a K18 HO1a HO1c HM1a HM2a HBa HO3b HO6 HBW H8A H8q
   go_wp2_with ((with_reducible refine gate_dst (N := 125) rfl ?_); refine hold_ ?_)
   intro _
   refine ldC rfl _ rfl _ rfl _ (0, 0) K10c.out hld1 ?_
   go_simp
   refine ldC rfl _ rfl _ rfl _ (0, 0) K18c.out hld1 ?_
   go_simp
   go_wp2_with (go_at_call 20; refine hold_ ?_)
   intro _
   refine HSM.out.mono ?_
   rintro e w8 ⟨rfl, nc, rfl⟩
   have hb8 := PrintWords.Drawn0.below (w := w11) ⟨⟨nc, rfl⟩⟩
   have HM1a := Lib.hid (HM1c.out.below hb8)
   have HM2a := Lib.hid (HM2c.out.below hb8)
   have HBa := Lib.hid (belowS hb8 HBc.out)
   have hz8 := hb8.size
   clear hb8 HM1c HM2c HBc HSM K10c K18c heq
   generalize w11.drewN nc = w12 at *
   go_wp2_with (go_at_call 14; refine hold_ ?_)
   intro _
   refine (Mm.Cells_calls p bl n1 f1 w12 HM1a.out (by omega)).mono ?_
   rintro e wA ⟨v4, l1, rfl, hrep, hlen, hown, -, hb⟩
   have HM3a := Lib.hid (HM2a.out.below hb)
   have HBb := Lib.hid (belowS hb HBa.out)
   have HO := Lib.hid hown
   have HREP := Lib.hid hrep
   have hlen2 : l1.length ≤ 400 := by omega
   clear hb HM2a HM1a HBa hown hrep hlen
   go_wp2_with (go_at_call 14; refine hold_ ?_)
   intro _
   refine (Mm.Cells_calls p2 b2 n3 f1 wA HM3a.out (by omega)).mono ?_
   rintro e wB ⟨v5, l2, rfl, hrep2, hlen3, hown2, -, hb9⟩
   have heql : l2 = l1 := hrep2.unique HREP.out
   subst heql
   have hs9 := Mm.Same_calls w12.heap.size wA.heap.size v4 v5 l2 l2 wB (HO.out.below hb9) hown2 (by omega) (by omega)
   rw [decide_eq_true rfl] at hs9
   have HS9 := Lib.hid hs9
   have HBc := Lib.hid (belowS hb9 HBb.out)
   clear hs9 hrep2 hlen3 hown2 hb9 HM3a HO HBb HREP
   go_wp2_with (go_at_call 16; refine hold_ ?_)
   intro _
   refine HS9.out.mono ?_
   rintro e wC ⟨rfl, nd, rfl⟩
   have HBd := Lib.hid (belowS (PrintWords.Drawn0.below ⟨⟨nd, rfl⟩⟩) HBc.out)
   clear HS9 HBc
   generalize wB.drewN nd = wD at *
   go_wp2_with (go_at_call 11; refine hold_ ?_)
   intro _
   refine (HF.out _).mono ?_
   rintro e wE ⟨rfl, hb11⟩
   have HBe := Lib.hid (belowS hb11 HBd.out)
   clear hb11 HBd
   go_wp2
   go_ret
   exact ⟨rfl, HBe.out⟩
 ·have b6 : (T2.2.2.2.1 != 6) = true := bne_iff_ne.mpr h6
  have hE := HPA.out
  rw [if_neg h6] at hE
  subst hE
  clear HPA h6
  obtain ⟨c2, f2, cs2, e2, s2⟩ := T1
  simp only at hld1 hld2 HM1 HM2 K10 K14 HO1 HO2 H8A H8B b6 HFB HFA HWD HRZ HFX
  go_wp2_with (first | ((with_reducible refine gate_dst (N := 69) rfl ?_); refine hold_ ?_) | refine alC rfl rfl ?_ | refine stN rfl _ _ rfl _ rfl rfl zs hld1 rfl ?_)
  intro _
  obtain ⟨g14, hg14⟩ : ∃ g14, g14 = w6.heap.size := ⟨_, rfl⟩
  generalize (w6.alloc (.cells (cv c2) 25)) = w7 at *
  rw [← hg14] at K14 hz6 hz62 ⊢
  clear hg14 K04
  have heq := fun w => eqB c2 hld1 w
  have hcs : cs2.length < 1000000000 := by have := HFB.out.1; have := HFB.out.2.2.2.2; omega
  have HSM := Lib.hid (KSame_calls wb.heap.size w5.heap.size (.slice o1 cs2.length cp1) (.slice o2 cs2.length cp2) cs2 H8A.out w7 HO1.out HO2.out hcs)
  clear HO1 HO2 H8A H8B HFB HFA HWD HRZ HFX hld2
  have hc1 : cs2.length < 9223372036854775808 := by omega
  refine ldC rfl _ rfl _ rfl _ (0, 0) K10.out hld1 ?_
  go_simp
  refine ldC rfl _ rfl _ rfl _ (0, 0) K14.out hld1 ?_
  go_simp
  go_wp2_with (go_at_call 20; refine hold_ ?_)
  intro _
  refine HSM.out.mono ?_
  rintro e w8 ⟨rfl, nc, rfl⟩
  have hb8 := PrintWords.Drawn0.below (w := w7) ⟨⟨nc, rfl⟩⟩
  have HM1a := Lib.hid (HM1.out.below hb8)
  have HM2a := Lib.hid (HM2.out.below hb8)
  have HBa := Lib.hid (belowS hb8 HB4.out)
  have hz8 := hb8.size
  clear hb8 HM1 HM2 HB4 HSM K10 K14 heq
  generalize w7.drewN nc = w9 at *
  go_wp2_with (go_at_call 14; refine hold_ ?_)
  intro _
  refine (Mm.Cells_calls p bl n1 f2 w9 HM1a.out (by omega)).mono ?_
  rintro e wA ⟨v4, l1, rfl, hrep, hlen, hown, -, hb⟩
  have HM3a := Lib.hid (HM2a.out.below hb)
  have HBb := Lib.hid (belowS hb HBa.out)
  have HO := Lib.hid hown
  have HREP := Lib.hid hrep
  have hlen2 : l1.length ≤ 400 := by omega
  clear hb HM2a HM1a HBa hown hrep hlen
  go_wp2_with (go_at_call 14; refine hold_ ?_)
  intro _
  refine (Mm.Cells_calls p2 b2 n2 f2 wA HM3a.out (by omega)).mono ?_
  rintro e wB ⟨v5, l2, rfl, hrep2, hlen3, hown2, -, hb9⟩
  have heql : l2 = l1 := hrep2.unique HREP.out
  subst heql
  have hs9 := Mm.Same_calls w9.heap.size wA.heap.size v4 v5 l2 l2 wB (HO.out.below hb9) hown2 (by omega) (by omega)
  rw [decide_eq_true rfl] at hs9
  have HS9 := Lib.hid hs9
  have HBc := Lib.hid (belowS hb9 HBb.out)
  clear hs9 hrep2 hlen3 hown2 hb9 HM3a HO HBb HREP
  go_wp2_with (go_at_call 16; refine hold_ ?_)
  intro _
  refine HS9.out.mono ?_
  rintro e wC ⟨rfl, nd, rfl⟩
  have HBd := Lib.hid (belowS (PrintWords.Drawn0.below ⟨⟨nd, rfl⟩⟩) HBc.out)
  clear HS9 HBc
  generalize wB.drewN nd = wD at *
  go_wp2_with (go_at_call 11; refine hold_ ?_)
  intro _
  refine (HF.out _).mono ?_
  rintro e wE ⟨rfl, hb11⟩
  have HBe := Lib.hid (belowS hb11 HBd.out)
  clear hb11 HBd
  go_wp2
  go_ret
  exact ⟨rfl, HBe.out⟩
theorem row_CpuParts (z : Wd) (cut : Int) (w : World) (hz : WdOk2 w z) (q0 : (Lit.int .i64 cut).wf = true) : Calls Try.prog 7 #[.agg (wv z), .int .i64 cut] w fun e w' => e = .returned (.bool true) ∧ Below w.heap.size w w' := walk_CpuParts z cut w hz.toWdOk hz.cap q0
end Go.Proofs.Ytononmcodecmaaa.Cp
end
