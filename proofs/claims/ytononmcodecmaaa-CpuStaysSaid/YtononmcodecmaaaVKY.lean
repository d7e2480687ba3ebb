import Derived.Test.YtononmcodecmaaaVKT
import Derived.Test.YtononmcodecmaaaVMO
import Derived.Test.YtononmcodecmaaaVOP
import Derived.OpenShut
import Derived.WideShapes
import Derived.ProofKit
import Derived.ChangeKeysEq
import Derived.BigFrame
import Derived.Deep.WholeRow
import Derived.Test.YtononmcodecmaaaVLA
import Derived.Test.YtononmcodecmaaaVQx
import Derived.WalkKit
import Derived.KernelRfl
import Derived.Below
import Derived.Outline
import Derived.LoopTactic
import Derived.Laws.BitsLemmas
import Derived.Laws.BitsAllLaws
import Derived.Deep.LoopGhost
import Derived.Lib.Hide
import Derived.Deep.QuietTactic
import Derived.BigQuiet
import Derived.Deep.Draws
import Derived.Laws.StructEq
import Derived.Deep.Slices
import Derived.Deep.Fields
import Derived.ChangeSame
import Derived.Deep.CutBlock
import Derived.Deep.DeepCutAuto
import Derived.Deep.RegionHeld3
import Derived.StillTailTactics
import Derived.WalkSmall
import Derived.OwnWalk
import Derived.Laws.OwnMore
import Derived.Laws.BytesArg
import Derived.Laws.MakeOwn
import Derived.Laws.Tables
import Derived.Laws.Rows
import Derived.Laws.World
import Derived.Test.YtononmcodecmaaaVKR
section
/- Layer 4: the machine (part KU). -/
namespace Go.Proofs.Ytononmcodecmaaa.Cp
open Go.RowKit Go.Maps Go.Proofs Go.Proofs.YtononmcodecmaaaW Go.Proofs.YtononmcodecmaaaW.PrintWords
set_option maxRecDepth 100000
set_option linter.unusedVariables false
set_option linter.unusedSimpArgs false
attribute [local go_sem] cv_set cv_at cv_size
theorem wv_at (z : Wd) (hl : z.c.length = 33) : (wv z)[33]? = some (.int .u32 z.A) ∧ (wv z)[34]? = some (.int .u32 z.B) ∧ (wv z)[35]? = some (.string z.S) ∧ (wv z)[36]? = some (.string z.T) ∧ (wv z)[37]? = some (.slice z.an z.ans.length z.ac) ∧ (wv z)[38]? = some (.int .i64 z.fuel) := by
 simp [wv, List.getElem?_append, hl]
theorem wv_c (z : Wd) (hl : z.c.length = 33) (i : Nat) (hi : i < 33) : (wv z)[i]? = some (.int .u32 (reg z.c i)) := by
 simp [wv, List.getElem?_append, hl, hi, reg, List.getD_eq_getElem?_getD]
set_option maxHeartbeats 2000000 in
theorem Laid_calls (z : Wd) (w : World) (hz : WdOk w z) : Calls Try.prog 12 #[.agg (wv z)] w fun e w' => ∃ p b q n f l, e = .returned (.tuple #[.pointer (some ⟨p, 0, none⟩), .pointer (some ⟨q, 0, none⟩)]) ∧ n ≤ 160 ∧ Mm.Two w w' p b q n f l := by
 have hl := hz.wc.len
 have HZ := Lib.hid hz
 go_enter Try.func12, Try.ntmps12
 go_wp2_with (go_at_call 28; refine hold_ ?_)
 intro _
 refine (Mm.New_calls _).mono ?_
 rintro e wa ⟨rfl, hm, hg⟩
 have k0 : wa.heap[w.heap.size]? = some (.cells (wv z) 34 (0, 0)) := (hg.block _ (by simp) (fun e => by cases e)).trans (heap_alloc_new _ _)
 have hB : Below w.heap.size w wa := ((Below.refl _ w).alloc (Nat.le_refl _) _).trans ⟨hg.os, hg.tape, hg.output, hg.size, fun k hk => hg.block k (by simp; omega) (fun e => by cases e)⟩
 have hza : w.heap.size + 1 ≤ wa.heap.size := by have := hg.size; simpa using this
 obtain ⟨bl, hbl⟩ : ∃ bl, bl = (w.alloc (.cells (wv z) 34)).heap.size := ⟨_, rfl⟩
 obtain ⟨p, hp⟩ : ∃ p, p = (w.alloc (.cells (wv z) 34)).heap.size + 1 := ⟨_, rfl⟩
 rw [← hp, ← hbl] at hm
 rw [← hp]
 have hblw : w.heap.size < bl := by rw [hbl]; simp
 have hpw : w.heap.size ≤ p := by rw [hp]; simp; omega
 clear hg hp hbl
 have HM := Lib.hid hm
 have K0 := Lib.hid k0
 have HB := Lib.hid hB
 clear hm k0 hB
 go_wp2_with (go_at_call 29; refine hold_ ?_)
 intro _
 refine (Mm.rNew_calls wa).mono ?_
 rintro e wb ⟨rfl, hr, hg⟩
 have hb0 : Below wa.heap.size wa wb := ⟨hg.os, hg.tape, hg.output, hg.size, fun k hk => hg.block k hk (fun e => by cases e)⟩
 obtain ⟨q, hq⟩ : ∃ q, q = wa.heap.size := ⟨_, rfl⟩
 have T0 := Aside0.mk (⟨HM.out.below hb0, hr, by omega, by omega, belowS hb0 HB.out⟩ : Mm.Two w wb p bl wa.heap.size 0 (fun _ => 0) [])
 have K1 := Lib.hid ((hb0.block w.heap.size (by omega)).trans K0.out)
 have hzb : w.heap.size + 1 ≤ wb.heap.size := Nat.le_trans hza hb0.size
 rw [← hq] at T0 ⊢
 have hqw : w.heap.size < q := by omega
 clear hr hg hb0 HM K0 HB hza hq
 obtain ⟨v33, v34, v35, v36, v37, v38⟩ := wv_at z hl
 obtain ⟨An, hAn⟩ : ∃ An : Nat, z.A = (An : Int) := ⟨z.A.toNat, by have := hz.hA; omega⟩
 have hA2 : An < 4294967296 := by have := hz.hA; omega
 obtain ⟨Bn, hBn⟩ : ∃ Bn : Nat, z.B = (Bn : Int) := ⟨z.B.toNat, by have := hz.hB; omega⟩
 have hB2 : Bn < 4294967296 := by have := hz.hB; omega
 have hcS := Mm.cut_le z.S 120
 have hcT := Mm.cut_le z.T 40
 obtain ⟨S1, hS1⟩ : ∃ S1, S1 = z.S.extract 0 (min (z.S.size : Int) 120).toNat := ⟨_, rfl⟩
 obtain ⟨T1, hT1⟩ : ∃ T1, T1 = z.T.extract 0 (min (z.T.size : Int) 40).toNat := ⟨_, rfl⟩
 have hcS : S1.size ≤ 120 := by rw [hS1]; exact hcS
 have hcT : T1.size ≤ 40 := by rw [hT1]; exact hcT
 have HS1 := Lib.hid hS1
 have HT1 := Lib.hid hT1
 clear hS1 hT1
 have mS : 0 ≤ min (z.S.size : Int) 120 ∧ min (z.S.size : Int) 120 ≤ (z.S.size : Int) := by omega
 have mT : 0 ≤ min (z.T.size : Int) 40 ∧ min (z.T.size : Int) 40 ≤ (z.T.size : Int) := by omega
 have V33 := Lib.hid v33
 have V34 := Lib.hid v34
 have V35 := Lib.hid v35
 have V36 := Lib.hid v36
 clear v33 v34 v35 v36 v37 v38 hz
 rw [hAn] at V33
 rw [hBn] at V34
 clear hAn hBn
 have xa := (cellOf K1.out 33).trans V33.out
 have xs := (cellOf K1.out 35).trans V35.out
 have hzq : w.heap.size < wb.heap.size := by omega
 go_wp2
 refine wp_region_held_drew (S := fun w' => w'.cell? ⟨w.heap.size, 33, none⟩ = some (.int .u32 An) ∧ w'.cell? ⟨w.heap.size, 35, none⟩ = some (.string z.S)) (by kernel_rfl) ⟨xa, xs⟩ (fun hHeld => ?_)
 refine rh_take (i := 0) (k := 12) (v := ?_) rfl rfl (by kernel_rfl) (by kernel_rfl) (by kernel_rfl) (fun _ _ _ h => h) (Or.inl ⟨by rfl, ?_⟩) hHeld ?_
 rotate_left
 ·(intro w hSw; obtain ⟨s0, s1⟩ := hSw; go_simp; try with_reducible rfl)
 simp only [Act.put, List.setIfInBounds_toArray, List.set_cons_zero, List.set_cons_succ]
 refine rh_take (i := 1) (k := 13) (v := ?_) rfl rfl (by kernel_rfl) (by kernel_rfl) (by kernel_rfl) (fun _ _ _ h => h) (Or.inl ⟨by rfl, ?_⟩) hHeld ?_
 rotate_left
 ·(intro w hSw; obtain ⟨s0, s1⟩ := hSw; go_simp; try with_reducible rfl)
 simp only [Act.put, List.setIfInBounds_toArray, List.set_cons_zero, List.set_cons_succ]
 refine rh_take (i := 2) (k := 14) (v := ?_) rfl rfl (by kernel_rfl) (by kernel_rfl) (by kernel_rfl) (fun _ _ _ h => h) (Or.inl ⟨by rfl, ?_⟩) hHeld ?_
 rotate_left
 ·(intro w hSw; obtain ⟨s0, s1⟩ := hSw; go_simp; try with_reducible rfl)
 simp only [Act.put, List.setIfInBounds_toArray, List.set_cons_zero, List.set_cons_succ]
 refine rh_take (i := 3) (k := 15) (v := ?_) rfl rfl (by kernel_rfl) (by kernel_rfl) (by kernel_rfl) (fun _ _ _ h => h) (Or.inl ⟨by rfl, ?_⟩) hHeld ?_
 rotate_left
 ·(intro w hSw; obtain ⟨s0, s1⟩ := hSw; go_simp; try with_reducible rfl)
 simp only [Act.put, List.setIfInBounds_toArray, List.set_cons_zero, List.set_cons_succ]
 refine rh_take (i := 4) (k := 16) (v := ?_) rfl rfl (by kernel_rfl) (by kernel_rfl) (by kernel_rfl) (fun _ _ _ h => h) (Or.inl ⟨by rfl, ?_⟩) hHeld ?_
 rotate_left
 ·(intro w hSw; obtain ⟨s0, s1⟩ := hSw; go_simp; try with_reducible rfl)
 simp only [Act.put, List.setIfInBounds_toArray, List.set_cons_zero, List.set_cons_succ]
 refine rh_take (i := 5) (k := 17) (v := ?_) rfl rfl (by kernel_rfl) (by kernel_rfl) (by kernel_rfl) (fun _ _ _ h => h) (Or.inl ⟨by rfl, ?_⟩) hHeld ?_
 rotate_left
 ·(intro w hSw; obtain ⟨s0, s1⟩ := hSw; go_simp; try with_reducible rfl)
 simp only [Act.put, List.setIfInBounds_toArray, List.set_cons_zero, List.set_cons_succ]
 refine rh_take (i := 6) (k := 18) (v := ?_) rfl rfl (by kernel_rfl) (by kernel_rfl) (by kernel_rfl) (fun _ _ _ h => h) (Or.inl ⟨by rfl, ?_⟩) hHeld ?_
 rotate_left
 ·(intro w hSw; obtain ⟨s0, s1⟩ := hSw; go_simp; try with_reducible rfl)
 simp only [Act.put, List.setIfInBounds_toArray, List.set_cons_zero, List.set_cons_succ]
 refine rh_take (i := 7) (k := 19) (v := ?_) rfl rfl (by kernel_rfl) (by kernel_rfl) (by kernel_rfl) (fun _ _ _ h => h) (Or.inl ⟨by rfl, ?_⟩) hHeld ?_
 rotate_left
 ·(intro w hSw; obtain ⟨s0, s1⟩ := hSw; go_simp; try with_reducible rfl)
 simp only [Act.put, List.setIfInBounds_toArray, List.set_cons_zero, List.set_cons_succ]
 refine rh_take (i := 8) (k := 20) (v := ?_) rfl rfl (by kernel_rfl) (by kernel_rfl) (by kernel_rfl) (fun _ _ _ h => h) (Or.inl ⟨by rfl, ?_⟩) hHeld ?_
 rotate_left
 ·(intro w hSw; obtain ⟨s0, s1⟩ := hSw; go_simp; try with_reducible rfl)
 simp only [Act.put, List.setIfInBounds_toArray, List.set_cons_zero, List.set_cons_succ]
 refine rh_take (i := 9) (k := 21) (v := ?_) rfl rfl (by kernel_rfl) (by kernel_rfl) (by kernel_rfl) (fun _ _ _ h => h) (Or.inl ⟨by rfl, ?_⟩) hHeld ?_
 rotate_left
 ·(intro w hSw; obtain ⟨s0, s1⟩ := hSw; go_simp; try with_reducible rfl)
 simp only [Act.put, List.setIfInBounds_toArray, List.set_cons_zero, List.set_cons_succ]
 rw [← HS1.out]
 refine wpAnyH_ready (rs := [10]) (by kernel_rfl) (by simp) ?_
 refine AllReadyH.cons (i := 10) rfl (fun K hK => ?_) AllReadyH.nil
 go_simp
 refine (Mm.Put_at (T0.out.mem.below (Below.refl _ wb).drew) An _ S1 rfl (by omega) hA2).mono ?_
 rintro e wc ⟨rfl, hm, hg⟩
 have M1 := Lib.hid hm
 have R1 := Lib.hid ((T0.out.ref.below (Below.refl _ wb).drew).other (T0.out.mem.below (Below.refl _ wb).drew) hg)
 have hbe : Below w.heap.size w wc := T0.out.bel.trans ((Below.refl _ wb).drew.trans ⟨hg.os, hg.tape, hg.output, hg.size, fun k hk => hg.block k (by show k < wb.heap.size; omega) (fun e => by injection e with e; omega)⟩)
 have B1 := Lib.hid hbe
 have k1 : wc.heap[w.heap.size]? = some (.cells (wv z) 34 (0, 0)) := (hg.block w.heap.size (by show w.heap.size < wb.heap.size; omega) (fun e => by injection e with e; omega)).trans K1.out
 have xa' := (cellOf k1 33).trans V33.out
 have xs' := (cellOf k1 35).trans V35.out
 have hzwc : w.heap.size + 1 ≤ wc.heap.size := Nat.le_trans (show w.heap.size + 1 ≤ wb.heap.size by omega) hg.size
 go_wp2_with fail
 refine hK.out _ _ ⟨xa', xs'⟩ (fun hHeld => ?_)
 clear hK K
 try simp only [Act.put, List.setIfInBounds_toArray, List.set_cons_zero, List.set_cons_succ]
 refine wpAnyH_done (by kernel_rfl) ?_ _
 have K1' := Lib.hid k1
 clear hHeld hg k1 xa xs xa' xs' hzq K1 hm hbe T0
 have K1 := K1'
 clear K1'
 have xa := (cellOf K1.out 33).trans V33.out
 have xs := (cellOf K1.out 35).trans V35.out
 have hzq : w.heap.size < wc.heap.size := by omega
 go_wp2
 refine wp_region_held_drew (S := fun w' => w'.cell? ⟨w.heap.size, 33, none⟩ = some (.int .u32 An) ∧ w'.cell? ⟨w.heap.size, 35, none⟩ = some (.string z.S)) (by kernel_rfl) ⟨xa, xs⟩ (fun hHeld => ?_)
 refine rh_take (i := 0) (k := 23) (v := ?_) rfl rfl (by kernel_rfl) (by kernel_rfl) (by kernel_rfl) (fun _ _ _ h => h) (Or.inl ⟨by rfl, ?_⟩) hHeld ?_
 rotate_left
 ·(intro w hSw; obtain ⟨s0, s1⟩ := hSw; go_simp; try with_reducible rfl)
 simp only [Act.put, List.setIfInBounds_toArray, List.set_cons_zero, List.set_cons_succ]
 refine rh_take (i := 1) (k := 24) (v := ?_) rfl rfl (by kernel_rfl) (by kernel_rfl) (by kernel_rfl) (fun _ _ _ h => h) (Or.inl ⟨by rfl, ?_⟩) hHeld ?_
 rotate_left
 ·(intro w hSw; obtain ⟨s0, s1⟩ := hSw; go_simp; try with_reducible rfl)
 simp only [Act.put, List.setIfInBounds_toArray, List.set_cons_zero, List.set_cons_succ]
 refine rh_take (i := 2) (k := 25) (v := ?_) rfl rfl (by kernel_rfl) (by kernel_rfl) (by kernel_rfl) (fun _ _ _ h => h) (Or.inl ⟨by rfl, ?_⟩) hHeld ?_
 rotate_left
 ·(intro w hSw; obtain ⟨s0, s1⟩ := hSw; go_simp; try with_reducible rfl)
 simp only [Act.put, List.setIfInBounds_toArray, List.set_cons_zero, List.set_cons_succ]
 refine rh_take (i := 3) (k := 26) (v := ?_) rfl rfl (by kernel_rfl) (by kernel_rfl) (by kernel_rfl) (fun _ _ _ h => h) (Or.inl ⟨by rfl, ?_⟩) hHeld ?_
 rotate_left
 ·(intro w hSw; obtain ⟨s0, s1⟩ := hSw; go_simp; try with_reducible rfl)
 simp only [Act.put, List.setIfInBounds_toArray, List.set_cons_zero, List.set_cons_succ]
 refine rh_take (i := 4) (k := 27) (v := ?_) rfl rfl (by kernel_rfl) (by kernel_rfl) (by kernel_rfl) (fun _ _ _ h => h) (Or.inl ⟨by rfl, ?_⟩) hHeld ?_
 rotate_left
 ·(intro w hSw; obtain ⟨s0, s1⟩ := hSw; go_simp; try with_reducible rfl)
 simp only [Act.put, List.setIfInBounds_toArray, List.set_cons_zero, List.set_cons_succ]
 refine rh_take (i := 5) (k := 28) (v := ?_) rfl rfl (by kernel_rfl) (by kernel_rfl) (by kernel_rfl) (fun _ _ _ h => h) (Or.inl ⟨by rfl, ?_⟩) hHeld ?_
 rotate_left
 ·(intro w hSw; obtain ⟨s0, s1⟩ := hSw; go_simp; try with_reducible rfl)
 simp only [Act.put, List.setIfInBounds_toArray, List.set_cons_zero, List.set_cons_succ]
 refine rh_take (i := 6) (k := 29) (v := ?_) rfl rfl (by kernel_rfl) (by kernel_rfl) (by kernel_rfl) (fun _ _ _ h => h) (Or.inl ⟨by rfl, ?_⟩) hHeld ?_
 rotate_left
 ·(intro w hSw; obtain ⟨s0, s1⟩ := hSw; go_simp; try with_reducible rfl)
 simp only [Act.put, List.setIfInBounds_toArray, List.set_cons_zero, List.set_cons_succ]
 refine rh_take (i := 7) (k := 30) (v := ?_) rfl rfl (by kernel_rfl) (by kernel_rfl) (by kernel_rfl) (fun _ _ _ h => h) (Or.inl ⟨by rfl, ?_⟩) hHeld ?_
 rotate_left
 ·(intro w hSw; obtain ⟨s0, s1⟩ := hSw; go_simp; try with_reducible rfl)
 simp only [Act.put, List.setIfInBounds_toArray, List.set_cons_zero, List.set_cons_succ]
 refine rh_take (i := 8) (k := 31) (v := ?_) rfl rfl (by kernel_rfl) (by kernel_rfl) (by kernel_rfl) (fun _ _ _ h => h) (Or.inl ⟨by rfl, ?_⟩) hHeld ?_
 rotate_left
 ·(intro w hSw; obtain ⟨s0, s1⟩ := hSw; go_simp; try with_reducible rfl)
 simp only [Act.put, List.setIfInBounds_toArray, List.set_cons_zero, List.set_cons_succ]
 refine rh_take (i := 9) (k := 32) (v := ?_) rfl rfl (by kernel_rfl) (by kernel_rfl) (by kernel_rfl) (fun _ _ _ h => h) (Or.inl ⟨by rfl, ?_⟩) hHeld ?_
 rotate_left
 ·(intro w hSw; obtain ⟨s0, s1⟩ := hSw; go_simp; try with_reducible rfl)
 simp only [Act.put, List.setIfInBounds_toArray, List.set_cons_zero, List.set_cons_succ]
 rw [← HS1.out]
 refine wpAnyH_ready (rs := [10]) (by kernel_rfl) (by simp) ?_
 refine AllReadyH.cons (i := 10) rfl (fun K hK => ?_) AllReadyH.nil
 go_simp
 refine (Mm.rPut_calls q _ _ _ An S1 _ (R1.out.below (Below.refl _ wc).drew) (by omega) hA2).mono ?_
 rintro e wd ⟨rfl, hrr, hg⟩
 obtain ⟨lwd, hr⟩ := hrr
 have Twd := Aside0.mk (⟨(M1.out.below (Below.refl _ wc).drew).byRef (R1.out.below (Below.refl _ wc).drew) hg, hr, by omega, by omega, B1.out.trans ((Below.refl _ wc).drew.trans ⟨hg.os, hg.tape, hg.output, hg.size, fun k hk => hg.block k (by show k < wc.heap.size; omega) (fun e => by injection e with e; omega)⟩)⟩ : Mm.Two w wd p bl q _ _ lwd)
 have k1 : wd.heap[w.heap.size]? = some (.cells (wv z) 34 (0, 0)) := (hg.block w.heap.size (by show w.heap.size < wc.heap.size; omega) (fun e => by injection e with e; omega)).trans K1.out
 have xa' := (cellOf k1 33).trans V33.out
 have xs' := (cellOf k1 35).trans V35.out
 have hzwd : w.heap.size + 1 ≤ wd.heap.size := Nat.le_trans (show w.heap.size + 1 ≤ wc.heap.size by omega) hg.size
 go_wp2_with fail
 refine hK.out _ _ ⟨xa', xs'⟩ (fun hHeld => ?_)
 clear hK K
 try simp only [Act.put, List.setIfInBounds_toArray, List.set_cons_zero, List.set_cons_succ]
 refine wpAnyH_done (by kernel_rfl) ?_ _
 have K1' := Lib.hid k1
 clear hHeld hg k1 xa xs xa' xs' hzq K1 hr M1 R1 B1
 have K1 := K1'
 clear K1'
 have xa := (cellOf K1.out 34).trans V34.out
 have xs := (cellOf K1.out 36).trans V36.out
 have hzq : w.heap.size < wd.heap.size := by omega
 go_wp2
 refine wp_region_held_drew (S := fun w' => w'.cell? ⟨w.heap.size, 34, none⟩ = some (.int .u32 Bn) ∧ w'.cell? ⟨w.heap.size, 36, none⟩ = some (.string z.T)) (by kernel_rfl) ⟨xa, xs⟩ (fun hHeld => ?_)
 refine rh_take (i := 0) (k := 34) (v := ?_) rfl rfl (by kernel_rfl) (by kernel_rfl) (by kernel_rfl) (fun _ _ _ h => h) (Or.inl ⟨by rfl, ?_⟩) hHeld ?_
 rotate_left
 ·(intro w hSw; obtain ⟨s0, s1⟩ := hSw; go_simp; try with_reducible rfl)
 simp only [Act.put, List.setIfInBounds_toArray, List.set_cons_zero, List.set_cons_succ]
 refine rh_take (i := 1) (k := 35) (v := ?_) rfl rfl (by kernel_rfl) (by kernel_rfl) (by kernel_rfl) (fun _ _ _ h => h) (Or.inl ⟨by rfl, ?_⟩) hHeld ?_
 rotate_left
 ·(intro w hSw; obtain ⟨s0, s1⟩ := hSw; go_simp; try with_reducible rfl)
 simp only [Act.put, List.setIfInBounds_toArray, List.set_cons_zero, List.set_cons_succ]
 refine rh_take (i := 2) (k := 36) (v := ?_) rfl rfl (by kernel_rfl) (by kernel_rfl) (by kernel_rfl) (fun _ _ _ h => h) (Or.inl ⟨by rfl, ?_⟩) hHeld ?_
 rotate_left
 ·(intro w hSw; obtain ⟨s0, s1⟩ := hSw; go_simp; try with_reducible rfl)
 simp only [Act.put, List.setIfInBounds_toArray, List.set_cons_zero, List.set_cons_succ]
 refine rh_take (i := 3) (k := 37) (v := ?_) rfl rfl (by kernel_rfl) (by kernel_rfl) (by kernel_rfl) (fun _ _ _ h => h) (Or.inl ⟨by rfl, ?_⟩) hHeld ?_
 rotate_left
 ·(intro w hSw; obtain ⟨s0, s1⟩ := hSw; go_simp; try with_reducible rfl)
 simp only [Act.put, List.setIfInBounds_toArray, List.set_cons_zero, List.set_cons_succ]
 refine rh_take (i := 4) (k := 38) (v := ?_) rfl rfl (by kernel_rfl) (by kernel_rfl) (by kernel_rfl) (fun _ _ _ h => h) (Or.inl ⟨by rfl, ?_⟩) hHeld ?_
 rotate_left
 ·(intro w hSw; obtain ⟨s0, s1⟩ := hSw; go_simp; try with_reducible rfl)
 simp only [Act.put, List.setIfInBounds_toArray, List.set_cons_zero, List.set_cons_succ]
 refine rh_take (i := 5) (k := 39) (v := ?_) rfl rfl (by kernel_rfl) (by kernel_rfl) (by kernel_rfl) (fun _ _ _ h => h) (Or.inl ⟨by rfl, ?_⟩) hHeld ?_
 rotate_left
 ·(intro w hSw; obtain ⟨s0, s1⟩ := hSw; go_simp; try with_reducible rfl)
 simp only [Act.put, List.setIfInBounds_toArray, List.set_cons_zero, List.set_cons_succ]
 refine rh_take (i := 6) (k := 40) (v := ?_) rfl rfl (by kernel_rfl) (by kernel_rfl) (by kernel_rfl) (fun _ _ _ h => h) (Or.inl ⟨by rfl, ?_⟩) hHeld ?_
 rotate_left
 ·(intro w hSw; obtain ⟨s0, s1⟩ := hSw; go_simp; try with_reducible rfl)
 simp only [Act.put, List.setIfInBounds_toArray, List.set_cons_zero, List.set_cons_succ]
 refine rh_take (i := 7) (k := 41) (v := ?_) rfl rfl (by kernel_rfl) (by kernel_rfl) (by kernel_rfl) (fun _ _ _ h => h) (Or.inl ⟨by rfl, ?_⟩) hHeld ?_
 rotate_left
 ·(intro w hSw; obtain ⟨s0, s1⟩ := hSw; go_simp; try with_reducible rfl)
 simp only [Act.put, List.setIfInBounds_toArray, List.set_cons_zero, List.set_cons_succ]
 refine rh_take (i := 8) (k := 42) (v := ?_) rfl rfl (by kernel_rfl) (by kernel_rfl) (by kernel_rfl) (fun _ _ _ h => h) (Or.inl ⟨by rfl, ?_⟩) hHeld ?_
 rotate_left
 ·(intro w hSw; obtain ⟨s0, s1⟩ := hSw; go_simp; try with_reducible rfl)
 simp only [Act.put, List.setIfInBounds_toArray, List.set_cons_zero, List.set_cons_succ]
 refine rh_take (i := 9) (k := 43) (v := ?_) rfl rfl (by kernel_rfl) (by kernel_rfl) (by kernel_rfl) (fun _ _ _ h => h) (Or.inl ⟨by rfl, ?_⟩) hHeld ?_
 rotate_left
 ·(intro w hSw; obtain ⟨s0, s1⟩ := hSw; go_simp; try with_reducible rfl)
 simp only [Act.put, List.setIfInBounds_toArray, List.set_cons_zero, List.set_cons_succ]
 rw [← HT1.out]
 refine wpAnyH_ready (rs := [10]) (by kernel_rfl) (by simp) ?_
 refine AllReadyH.cons (i := 10) rfl (fun K hK => ?_) AllReadyH.nil
 go_simp
 refine (Mm.Put_at (Twd.out.mem.below (Below.refl _ wd).drew) Bn _ T1 rfl (by omega) hB2).mono ?_
 rintro e we ⟨rfl, hm, hg⟩
 have M1 := Lib.hid hm
 have R1 := Lib.hid ((Twd.out.ref.below (Below.refl _ wd).drew).other (Twd.out.mem.below (Below.refl _ wd).drew) hg)
 have hbe : Below w.heap.size w we := Twd.out.bel.trans ((Below.refl _ wd).drew.trans ⟨hg.os, hg.tape, hg.output, hg.size, fun k hk => hg.block k (by show k < wd.heap.size; omega) (fun e => by injection e with e; omega)⟩)
 have B1 := Lib.hid hbe
 have k1 : we.heap[w.heap.size]? = some (.cells (wv z) 34 (0, 0)) := (hg.block w.heap.size (by show w.heap.size < wd.heap.size; omega) (fun e => by injection e with e; omega)).trans K1.out
 have xa' := (cellOf k1 34).trans V34.out
 have xs' := (cellOf k1 36).trans V36.out
 have hzwe : w.heap.size + 1 ≤ we.heap.size := Nat.le_trans (show w.heap.size + 1 ≤ wd.heap.size by omega) hg.size
 go_wp2_with fail
 refine hK.out _ _ ⟨xa', xs'⟩ (fun hHeld => ?_)
 clear hK K
 try simp only [Act.put, List.setIfInBounds_toArray, List.set_cons_zero, List.set_cons_succ]
 refine wpAnyH_done (by kernel_rfl) ?_ _
 have K1' := Lib.hid k1
 clear hHeld hg k1 xa xs xa' xs' hzq K1 hm hbe Twd
 have K1 := K1'
 clear K1'
 have xa := (cellOf K1.out 34).trans V34.out
 have xs := (cellOf K1.out 36).trans V36.out
 have hzq : w.heap.size < we.heap.size := by omega
 go_wp2
 refine wp_region_held_drew (S := fun w' => w'.cell? ⟨w.heap.size, 34, none⟩ = some (.int .u32 Bn) ∧ w'.cell? ⟨w.heap.size, 36, none⟩ = some (.string z.T)) (by kernel_rfl) ⟨xa, xs⟩ (fun hHeld => ?_)
 refine rh_take (i := 0) (k := 45) (v := ?_) rfl rfl (by kernel_rfl) (by kernel_rfl) (by kernel_rfl) (fun _ _ _ h => h) (Or.inl ⟨by rfl, ?_⟩) hHeld ?_
 rotate_left
 ·(intro w hSw; obtain ⟨s0, s1⟩ := hSw; go_simp; try with_reducible rfl)
 simp only [Act.put, List.setIfInBounds_toArray, List.set_cons_zero, List.set_cons_succ]
 refine rh_take (i := 1) (k := 46) (v := ?_) rfl rfl (by kernel_rfl) (by kernel_rfl) (by kernel_rfl) (fun _ _ _ h => h) (Or.inl ⟨by rfl, ?_⟩) hHeld ?_
 rotate_left
 ·(intro w hSw; obtain ⟨s0, s1⟩ := hSw; go_simp; try with_reducible rfl)
 simp only [Act.put, List.setIfInBounds_toArray, List.set_cons_zero, List.set_cons_succ]
 refine rh_take (i := 2) (k := 47) (v := ?_) rfl rfl (by kernel_rfl) (by kernel_rfl) (by kernel_rfl) (fun _ _ _ h => h) (Or.inl ⟨by rfl, ?_⟩) hHeld ?_
 rotate_left
 ·(intro w hSw; obtain ⟨s0, s1⟩ := hSw; go_simp; try with_reducible rfl)
 simp only [Act.put, List.setIfInBounds_toArray, List.set_cons_zero, List.set_cons_succ]
 refine rh_take (i := 3) (k := 48) (v := ?_) rfl rfl (by kernel_rfl) (by kernel_rfl) (by kernel_rfl) (fun _ _ _ h => h) (Or.inl ⟨by rfl, ?_⟩) hHeld ?_
 rotate_left
 ·(intro w hSw; obtain ⟨s0, s1⟩ := hSw; go_simp; try with_reducible rfl)
 simp only [Act.put, List.setIfInBounds_toArray, List.set_cons_zero, List.set_cons_succ]
 refine rh_take (i := 4) (k := 49) (v := ?_) rfl rfl (by kernel_rfl) (by kernel_rfl) (by kernel_rfl) (fun _ _ _ h => h) (Or.inl ⟨by rfl, ?_⟩) hHeld ?_
 rotate_left
 ·(intro w hSw; obtain ⟨s0, s1⟩ := hSw; go_simp; try with_reducible rfl)
 simp only [Act.put, List.setIfInBounds_toArray, List.set_cons_zero, List.set_cons_succ]
 refine rh_take (i := 5) (k := 50) (v := ?_) rfl rfl (by kernel_rfl) (by kernel_rfl) (by kernel_rfl) (fun _ _ _ h => h) (Or.inl ⟨by rfl, ?_⟩) hHeld ?_
 rotate_left
 ·(intro w hSw; obtain ⟨s0, s1⟩ := hSw; go_simp; try with_reducible rfl)
 simp only [Act.put, List.setIfInBounds_toArray, List.set_cons_zero, List.set_cons_succ]
 refine rh_take (i := 6) (k := 51) (v := ?_) rfl rfl (by kernel_rfl) (by kernel_rfl) (by kernel_rfl) (fun _ _ _ h => h) (Or.inl ⟨by rfl, ?_⟩) hHeld ?_
 rotate_left
 ·(intro w hSw; obtain ⟨s0, s1⟩ := hSw; go_simp; try with_reducible rfl)
 simp only [Act.put, List.setIfInBounds_toArray, List.set_cons_zero, List.set_cons_succ]
 refine rh_take (i := 7) (k := 52) (v := ?_) rfl rfl (by kernel_rfl) (by kernel_rfl) (by kernel_rfl) (fun _ _ _ h => h) (Or.inl ⟨by rfl, ?_⟩) hHeld ?_
 rotate_left
 ·(intro w hSw; obtain ⟨s0, s1⟩ := hSw; go_simp; try with_reducible rfl)
 simp only [Act.put, List.setIfInBounds_toArray, List.set_cons_zero, List.set_cons_succ]
 refine rh_take (i := 8) (k := 53) (v := ?_) rfl rfl (by kernel_rfl) (by kernel_rfl) (by kernel_rfl) (fun _ _ _ h => h) (Or.inl ⟨by rfl, ?_⟩) hHeld ?_
 rotate_left
 ·(intro w hSw; obtain ⟨s0, s1⟩ := hSw; go_simp; try with_reducible rfl)
 simp only [Act.put, List.setIfInBounds_toArray, List.set_cons_zero, List.set_cons_succ]
 refine rh_take (i := 9) (k := 54) (v := ?_) rfl rfl (by kernel_rfl) (by kernel_rfl) (by kernel_rfl) (fun _ _ _ h => h) (Or.inl ⟨by rfl, ?_⟩) hHeld ?_
 rotate_left
 ·(intro w hSw; obtain ⟨s0, s1⟩ := hSw; go_simp; try with_reducible rfl)
 simp only [Act.put, List.setIfInBounds_toArray, List.set_cons_zero, List.set_cons_succ]
 rw [← HT1.out]
 refine wpAnyH_ready (rs := [10]) (by kernel_rfl) (by simp) ?_
 refine AllReadyH.cons (i := 10) rfl (fun K hK => ?_) AllReadyH.nil
 go_simp
 refine (Mm.rPut_calls q _ _ _ Bn T1 _ (R1.out.below (Below.refl _ we).drew) (by omega) hB2).mono ?_
 rintro e wf ⟨rfl, hrr, hg⟩
 obtain ⟨lwf, hr⟩ := hrr
 have Twf := Aside0.mk (⟨(M1.out.below (Below.refl _ we).drew).byRef (R1.out.below (Below.refl _ we).drew) hg, hr, by omega, by omega, B1.out.trans ((Below.refl _ we).drew.trans ⟨hg.os, hg.tape, hg.output, hg.size, fun k hk => hg.block k (by show k < we.heap.size; omega) (fun e => by injection e with e; omega)⟩)⟩ : Mm.Two w wf p bl q _ _ lwf)
 have k1 : wf.heap[w.heap.size]? = some (.cells (wv z) 34 (0, 0)) := (hg.block w.heap.size (by show w.heap.size < we.heap.size; omega) (fun e => by injection e with e; omega)).trans K1.out
 have xa' := (cellOf k1 34).trans V34.out
 have xs' := (cellOf k1 36).trans V36.out
 have hzwf : w.heap.size + 1 ≤ wf.heap.size := Nat.le_trans (show w.heap.size + 1 ≤ we.heap.size by omega) hg.size
 go_wp2_with fail
 refine hK.out _ _ ⟨xa', xs'⟩ (fun hHeld => ?_)
 clear hK K
 try simp only [Act.put, List.setIfInBounds_toArray, List.set_cons_zero, List.set_cons_succ]
 refine wpAnyH_done (by kernel_rfl) ?_ _
 have K1' := Lib.hid k1
 clear hHeld hg k1 xa xs xa' xs' hzq K1 hr M1 R1 B1
 have K1 := K1'
 clear K1'
 go_wp2
 go_ret2
 exact ⟨p, bl, q, _, _, lwf, rfl, by omega, Twf.out⟩
end Go.Proofs.Ytononmcodecmaaa.Cp
end
section
/- Layer 4: the machine (part KV). -/
namespace Go.Proofs.Ytononmcodecmaaa.Cp
open Go.RowKit Go.Maps Go.Proofs Go.Proofs.YtononmcodecmaaaW Go.Proofs.YtononmcodecmaaaW.PrintWords
set_option maxRecDepth 100000
set_option linter.unusedVariables false
set_option linter.unusedSimpArgs false
attribute [local go_sem] cv_set cv_at cv_size
theorem accessv_end (c : List Int) (f : Nat → Nat) (op rd a b m : Int) : (accessv c f op rd a b m).2.2 = 0 ∨ (accessv c f op rd a b m).2.2 = 5 := by
 unfold accessv
 split
 ·exact Or.inr rfl
 split
 ·exact Or.inl rfl
 ·exact Or.inl rfl
theorem jumpv_end (c : List Int) (f : Nat → Nat) (op rd a b m : Int) : 0 ≤ (jumpv c f op rd a b m).2.2 ∧ (jumpv c f op rd a b m).2.2 ≤ 5 := by
 unfold jumpv
 split
 ·simp
 split
 ·simp
 split
 ·simp
 split
 ·simp
 split
 ·simp
 ·rcases accessv_end c f op rd a b m with h | h <;> omega
theorem stepw_end (c : List Int) (f : Nat → Nat) (z : Int × Int × Int × Int × Int × Int) : 0 ≤ (stepw c f z).2.2 ∧ (stepw c f z).2.2 ≤ 5 := by
 unfold stepw
 split
 ·simp
 split
 ·simp
 ·exact jumpv_end _ _ _ _ _ _ _
theorem stepv_end (c : List Int) (f : Nat → Nat) : 0 ≤ (stepv c f).2.2 ∧ (stepv c f).2.2 ≤ 5 := by
 by_cases h : reg (c.set 0 0) 32 % 4 = 0
 ·rw [stepv_w c f h]
  generalize decT (Mm.ld f (reg (c.set 0 0) 32).toNat 4) = z
  exact stepw_end _ _ _
 ·rw [stepv_m c f h]
  simp
end Go.Proofs.Ytononmcodecmaaa.Cp
end
section
/- Layer 4: the machine (part KW). -/
namespace Go.Proofs.Ytononmcodecmaaa.Cp
open Go.RowKit Go.Maps Go.Proofs Go.Proofs.YtononmcodecmaaaW Go.Proofs.YtononmcodecmaaaW.PrintWords
set_option maxRecDepth 100000
set_option linter.unusedVariables false
set_option linter.unusedSimpArgs false
attribute [local go_sem] cv_set cv_at cv_size
theorem wv_size (z : Wd) (hl : z.c.length = 33) : (wv z).size = 39 := by simp [wv, hl]
theorem infoW : (Try.prog.info? 34).map (·.size) = some 39 := by kernel_rfl
theorem ldW {ops : Array Oper} {rest : List Oper} {o : Oper} {a : Act} {w : World} {Q : Exit → Act → World → Prop} (hgd : o.guard = none) (x : Operand) (ho : o.op = .load 34 x)
  (g : Nat) (hx : a.eval x = .pointer (some ⟨g, 0, none⟩)) (z : Wd) (fr : Nat × Nat) (hg : w.heap[g]? = some (.cells (wv z) 34 fr)) (hc : z.c.length = 33)
  (h : wpList Try.prog ops Q rest (a.put o.dst (.agg (wv z))) w) : wpList Try.prog ops Q (o :: rest) a w :=
 wpList_load_row hgd _ x ho g hx _ _ fr _ hg Try.underlying34 rfl (infoW.trans (by rw [wv_size z hc])) h
theorem loadSub (w : World) (g : Nat) (c : List Int) (hcell : ∀ j, j < 33 → w.cell? ⟨g, j, none⟩ = some (.int .u32 (reg c j))) (hc : c.length = 33) : (loadVar 25 ⟨g, 0, none⟩).run Try.prog w = .ok (.agg (cv c)) w := by
 have hl : (loadCells ⟨g, 0, none⟩ (cv c).toList.length).run Try.prog w = .ok (cv c).toList.toArray w :=
  run_loadCells_list (P := Try.prog) w ⟨g, 0, none⟩ (cv c).toList (fun j v hv => by
   have hadd : (⟨g, 0, none⟩ : Addr).add j = ⟨g, j, none⟩ := by unfold Addr.add; split <;> simp_all
   have hj : j < 33 := by
    have := (List.getElem?_eq_some_iff.1 hv).1
    rw [Array.length_toList, cv_size] at this
    omega
   rw [hadd, hcell j hj]
   rw [Array.getElem?_toList, cv_get c j (by omega)] at hv
   exact hv)
 have hi := infoC
 cases hq : Try.prog.info? 25 with
 | none => simp [hq] at hi
 | some i =>
  have hs : i.size = 33 := by simpa [hq] using hi
  have hagg : (isAgg 25).run Try.prog w = .ok true w := by
   unfold isAgg
   rw [Sem.run_bind, run_underlying Try.underlying25 w]
   simp
  simp only [Array.length_toList, Array.toArray_toList, cv_size, hc] at hl
  simp [loadVar, Sem.run_bind, hagg, sizeOf, typeInfo, hq, hs, hl]
theorem ldS {ops : Array Oper} {rest : List Oper} {o : Oper} {a : Act} {w : World} {Q : Exit → Act → World → Prop} (hgd : o.guard = none) (x : Operand) (ho : o.op = .load 25 x)
  (g : Nat) (hx : a.eval x = .pointer (some ⟨g, 0, none⟩)) (z : Wd) (t : TypeId) (fr : Nat × Nat) (hg : w.heap[g]? = some (.cells (wv z) t fr)) (hc : z.c.length = 33)
  (h : wpList Try.prog ops Q rest (a.put o.dst (.agg (cv z.c))) w) : wpList Try.prog ops Q (o :: rest) a w := by
 refine wpList_plain hgd fun K hK => ?_
 have hld := loadSub w g z.c (fun j hj => by rw [cell_of_row w g j _ t fr hg, wv_c z hc j hj]) hc
 unfold Oper.wp execOp
 simp only [ho, hx, Instr.loadAt, Instr.sureAddr, Sem.run_bind, Sem.run_pure, Result.andThen_ok, hld]
 exact hK _ _ h
theorem AnsAt.below {w w' : World} {A : Option Addr} {ans : List Int} (h : AnsAt w A ans) (hB : Below w.heap.size w w') : AnsAt w' A ans := by
 intro i hi
 obtain ⟨ad, e, hb, hc⟩ := h i hi
 refine ⟨ad, e, Nat.lt_of_lt_of_le hb hB.size, ?_⟩
 exact (World.cell?_of_block (by rw [add_block]; exact hB.block ad.block hb)).trans hc
theorem putn_lt (f : Nat → Nat) (a : Nat) (g : Nat → Nat) (hf : ∀ x, f x < 256) (hg : ∀ j, g j < 256) : ∀ k x, Mm.putn f a g k x < 256
 | 0, x => hf x
 | k + 1, x => by
  unfold Mm.putn Mm.upd
  split
  ·exact hg k
  ·exact putn_lt f a g hf hg k x
theorem accessv_lt (c : List Int) (f : Nat → Nat) (hf : ∀ x, f x < 256) (op rd a b m : Int) : ∀ x, (accessv c f op rd a b m).2.1 x < 256 := by
 unfold accessv
 split
 ·exact hf
 split
 ·exact putn_lt f _ _ hf (fun j => Nat.mod_lt _ (by omega)) _
 ·exact hf
theorem jumpv_lt (c : List Int) (f : Nat → Nat) (hf : ∀ x, f x < 256) (op rd a b m : Int) : ∀ x, (jumpv c f op rd a b m).2.1 x < 256 := by
 unfold jumpv
 split
 ·exact hf
 split
 ·exact hf
 split
 ·exact hf
 split
 ·exact hf
 split
 ·exact hf
 ·exact accessv_lt c f hf _ _ _ _ _
theorem stepw_lt (c : List Int) (f : Nat → Nat) (hf : ∀ x, f x < 256) (z : Int × Int × Int × Int × Int × Int) : ∀ x, (stepw c f z).2.1 x < 256 := by
 unfold stepw
 split
 ·exact hf
 split
 ·exact hf
 ·exact jumpv_lt c f hf _ _ _ _ _
theorem stepv_lt (c : List Int) (f : Nat → Nat) (hf : ∀ x, f x < 256) : ∀ x, (stepv c f).2.1 x < 256 := by
 by_cases h : reg (c.set 0 0) 32 % 4 = 0
 ·rw [stepv_w c f h]
  generalize decT (Mm.ld f (reg (c.set 0 0) 32).toNat 4) = z
  exact stepw_lt _ _ hf _
 ·rw [stepv_m c f h]
  exact hf
end Go.Proofs.Ytononmcodecmaaa.Cp
end
section
/- Layer 4: the machine (part KX). -/
namespace Go.Proofs.Ytononmcodecmaaa.Cp
open Go.RowKit Go.Maps Go.Proofs Go.Proofs.YtononmcodecmaaaW Go.Proofs.YtononmcodecmaaaW.PrintWords
set_option maxRecDepth 100000
set_option linter.unusedVariables false
set_option linter.unusedSimpArgs false
attribute [local go_sem] cv_set cv_at cv_size
def One (d c : List Int) : Prop := ∃ r, ∀ i, i < 32 → i ≠ r → reg d i = reg c i
theorem one_refl (c : List Int) (k : Nat) (v : Int) (hk : 32 ≤ k) : ∀ i, i < 32 → reg (c.set k v) i = reg c i := fun i hi => reg_set_ne _ _ _ _ (by omega)
theorem setl_one (c : List Int) (r : Nat) (v : Int) : (∀ i, i ≠ r → reg (setl c r v) i = reg c i) ∧ (reg c 0 = 0 → reg (setl c r v) 0 = 0) := by
 unfold setl
 split
 ·exact ⟨fun _ _ => rfl, id⟩
 ·rename_i h
  exact ⟨fun i hi => reg_set_ne _ _ _ _ (fun e => hi e.symm), fun h0 => by rw [reg_set_ne _ _ _ _ h]; exact h0⟩
theorem rset_one (c : List Int) (r : Nat) (v : Int) : (∀ i, i < 32 → i ≠ r → reg (rset c r v) i = reg c i) ∧ (reg c 0 = 0 → reg (rset c r v) 0 = 0) := by
 have h := setl_one c r v
 have e : rset c r v = (setl c r v).set 32 ((reg c 32 + 4) % 4294967296) := rfl
 rw [e]
 exact ⟨fun i hi hr => by rw [reg_set_ne _ _ _ _ (by omega)]; exact h.1 i hr, fun h0 => by rw [reg_set_ne _ _ _ _ (by omega)]; exact h.2 h0⟩
def Stays (c : List Int) (f : Nat → Nat) (t : List Int × (Nat → Nat) × Int) : Prop :=
 (t.2.2 ≠ 0 → t.2.2 ≠ 1 → t.1 = c ∧ t.2.1 = f) ∧ (t.2.2 = 1 → t.1 = c.set 32 ((reg c 32 + 4) % 4294967296) ∧ t.2.1 = f) ∧
 (t.2.2 = 0 → reg t.1 0 = 0 ∧ ((∀ i, i < 32 → reg t.1 i = reg c i) ∨ (One t.1 c ∧ t.2.1 = f)))
theorem stays_access (c : List Int) (h0 : reg c 0 = 0) (f : Nat → Nat) (op rd a b m : Int) : Stays c f (accessv c f op rd a b m) := by
 unfold accessv
 split
 ·exact ⟨fun _ _ => ⟨rfl, rfl⟩, fun h => (by cases h), fun h => (by cases h)⟩
 split
 ·exact ⟨fun h _ => absurd rfl h, fun h => (by cases h), fun _ => ⟨by rw [reg_set_ne _ _ _ _ (by omega)]; exact h0, Or.inl (one_refl _ _ _ (Nat.le_refl _))⟩⟩
 ·refine ⟨fun h _ => absurd rfl h, fun h => (by cases h), fun _ => ⟨(rset_one _ _ _).2 h0, Or.inr ⟨⟨_, (rset_one _ _ _).1⟩, rfl⟩⟩⟩
theorem stays_jump (c : List Int) (h0 : reg c 0 = 0) (f : Nat → Nat) (op rd a b m : Int) : Stays c f (jumpv c f op rd a b m) := by
 have hs : ∀ v u, reg ((setl c rd.toNat v).set 32 u) 0 = 0 ∧ One ((setl c rd.toNat v).set 32 u) c := fun v u =>
  ⟨by rw [reg_set_ne _ _ _ _ (by omega)]; exact (setl_one _ _ _).2 h0, ⟨rd.toNat, fun i hi hr => by rw [reg_set_ne _ _ _ _ (by omega)]; exact (setl_one _ _ _).1 i hr⟩⟩
 unfold jumpv
 split
 ·exact ⟨fun h _ => absurd rfl h, fun h => (by cases h), fun _ => ⟨(hs _ _).1, Or.inr ⟨(hs _ _).2, rfl⟩⟩⟩
 split
 ·exact ⟨fun h _ => absurd rfl h, fun h => (by cases h), fun _ => ⟨(hs _ _).1, Or.inr ⟨(hs _ _).2, rfl⟩⟩⟩
 split
 ·exact ⟨fun h _ => absurd rfl h, fun h => (by cases h), fun _ => ⟨by rw [reg_set_ne _ _ _ _ (by omega)]; exact h0, Or.inl (one_refl _ _ _ (Nat.le_refl _))⟩⟩
 split
 ·exact ⟨fun _ h => absurd rfl h, fun _ => ⟨rfl, rfl⟩, fun h => (by cases h)⟩
 split
 ·exact ⟨fun _ _ => ⟨rfl, rfl⟩, fun h => (by cases h), fun h => (by cases h)⟩
 ·exact stays_access c h0 f _ _ _ _ _
theorem does_one (c : List Int) (h0 : reg c 0 = 0) (op rd a b m : Int) : reg (doesv c op rd a b m).1 0 = 0 ∧ One (doesv c op rd a b m).1 (c.set 0 0) := by
 have z : ∀ c : List Int, reg (c.set 0 0) 0 = 0 := fun c => by
  by_cases h : 0 < c.length
  ·exact reg_set_eq _ _ _ h
  ·have : c = [] := List.eq_nil_of_length_eq_zero (by omega)
   subst this
   rfl
 unfold doesv
 split
 ·split
  ·exact ⟨(rset_one _ _ _).2 (z c), ⟨_, (rset_one _ _ _).1⟩⟩
  ·exact ⟨z c, ⟨0, fun _ _ _ => rfl⟩⟩
 ·exact ⟨z c, ⟨0, fun _ _ _ => rfl⟩⟩
theorem set0_set0 (c : List Int) : (c.set 0 0).set 0 0 = c.set 0 (0 : Int) := List.set_set _
theorem stays_stepw (c : List Int) (h0 : reg c 0 = 0) (hs : c.set 0 0 = c) (f : Nat → Nat) (z : Int × Int × Int × Int × Int × Int) : Stays c f (stepw c f z) := by
 unfold stepw
 split
 ·exact ⟨fun _ _ => ⟨rfl, rfl⟩, fun h => (by cases h), fun h => (by cases h)⟩
 split
 ·have hd := does_one c h0 z.1 z.2.1 z.2.2.1 z.2.2.2.1 z.2.2.2.2.1
  rw [hs] at hd
  exact ⟨fun h _ => absurd rfl h, fun h => (by cases h), fun _ => ⟨hd.1, Or.inr ⟨hd.2, rfl⟩⟩⟩
 ·exact stays_jump _ h0 f _ _ _ _ _
theorem stays_step (c : List Int) (hc : c.length = 33) (f : Nat → Nat) : Stays (c.set 0 0) f (stepv c f) := by
 have h0 : reg (c.set 0 0) 0 = 0 := reg_set_eq _ _ _ (by omega)
 by_cases h : reg (c.set 0 0) 32 % 4 = 0
 ·rw [stepv_w c f h]
  exact stays_stepw _ h0 (set0_set0 c) f _
 ·rw [stepv_m c f h]
  exact ⟨fun _ _ => ⟨rfl, rfl⟩, fun h => (by cases h), fun h => (by cases h)⟩
def cnt (d c : List Int) : Nat → Nat
 | 0 => 0
 | j + 1 => cnt d c j + (if reg d j ≠ reg c j then 1 else 0)
theorem cnt_zero (d c : List Int) (h : ∀ i, i < 32 → reg d i = reg c i) : ∀ j, j ≤ 32 → cnt d c j = 0
 | 0, _ => rfl
 | j + 1, hj => by
  unfold cnt
  rw [cnt_zero d c h j (by omega), if_neg (fun e => e (h j (by omega)))]
theorem cnt_one (d c : List Int) (h : One d c) (j : Nat) (hj : j ≤ 32) : cnt d c j ≤ 1 := by
 obtain ⟨r, hr⟩ := h
 have key : ∀ j, j ≤ 32 → cnt d c j ≤ (if r < j then 1 else 0) := by
  intro j
  induction j with
  | zero => intro _; exact Nat.zero_le _
  | succ j ih =>
   intro hj
   have := ih (by omega)
   unfold cnt
   by_cases e : j = r
   ·subst e
    rw [if_neg (Nat.lt_irrefl _)] at this
    rw [if_pos (Nat.lt_succ_self _)]
    split <;> omega
   ·rw [if_neg (fun q => q (hr j (by omega) e))]
    split at this <;> split <;> omega
 have := key j hj
 split at this <;> omega
end Go.Proofs.Ytononmcodecmaaa.Cp
end
section
/- Layer 4: the machine (part KQ). -/
namespace Go.Proofs.Ytononmcodecmaaa.Cp
open Go.RowKit Go.Maps Go.Proofs Go.Proofs.YtononmcodecmaaaW Go.Proofs.YtononmcodecmaaaW.PrintWords
set_option maxRecDepth 100000
set_option linter.unusedVariables false
set_option linter.unusedSimpArgs false
attribute [local go_sem] cv_set cv_at cv_size
theorem eqU (d : Nat) (z : Int) (w : World) : (Op.equalIn (d + 1) 22 (.int .u32 z) (.int .u32 z)).run Try.prog w = .ok true w := by
 simp [Op.equalIn, Sem.run_bind, run_underlying Try.underlying22]
theorem partU (xs : Array Value) (i : Nat) (z : Int) (h : xs[i]? = some (.int .u32 z)) (w : World) : (part 22 xs i).run Try.prog w = .ok (.int .u32 z) w :=
 run_part_plain w (by kernel_rfl) h
theorem eqItems_refl (d : Nat) (xs : Array Value) (w : World) : ∀ is : List Nat, (∀ i ∈ is, ∃ z, xs[i]? = some (.int .u32 z)) → (Op.eqItems (d + 1) 22 1 xs xs is).run Try.prog w = .ok true w
 | [], _ => by simp [Op.eqItems]
 | i :: is, h => by
  obtain ⟨z, hz⟩ := h i (List.mem_cons_self)
  have ih := eqItems_refl d xs w is (fun j hj => h j (List.mem_cons_of_mem _ hj))
  simp only [Op.eqItems, Sem.run_bind, Nat.mul_one, partU xs i z hz w, Result.andThen_ok, eqU d z w]
  simpa using ih
theorem eqArr (d : Nat) (c : List Int) (hc : 32 ≤ c.length) (w : World) : (Op.equalIn (d + 2) 23 (.agg ((cv c).extract 0 32)) (.agg ((cv c).extract 0 32))).run Try.prog w = .ok true w := by
 obtain ⟨i, hi⟩ : ∃ i, Try.prog.info? 22 = some i := ⟨_, rfl⟩
 rw [run_equalIn_array w (d + 1) _ _ Try.underlying23 hi, show Try.prog.cellsOf 22 = 1 by kernel_rfl]
 refine eqItems_refl d _ w _ (fun j hj => ?_)
 have hj : j < 32 := by simpa using hj
 refine ⟨reg c j, ?_⟩
 rw [Array.getElem?_extract, if_pos (by rw [cv_size]; omega), Nat.zero_add, cv_get c j (by omega)]
theorem eqC (c : List Int) (hc : c.length = 33) (w : World) : (Op.equalIn 10000 25 (.agg (cv c)) (.agg (cv c))).run Try.prog w = .ok true w := by
 refine (eqA_of (d := 9999) Try.underlying25 (by kernel_rfl) ?_ : (Op.equalIn (9999 + 1) 25 (.agg (cv c)) (.agg (cv c))).run Try.prog w = .ok true w)
 have h0 : ∀ w, (part 23 (cv c) 0).run Try.prog w = .ok (.agg ((cv c).extract 0 32)) w := by
  intro w
  obtain ⟨i, hi⟩ : ∃ i, Try.prog.info? 23 = some i := ⟨_, rfl⟩
  have hs : Try.prog.cellsOf 23 = 32 := by kernel_rfl
  simp only [part, isAgg, Sem.run_bind, run_underlying Try.underlying23, Result.andThen_ok, Sem.run_pure, if_true, run_sizeOf w hi, hs, Nat.zero_add]
 have h1 := partU (cv c) 32 (reg c 32) (cv_get c 32 (by omega)) w
 have e1 := eqArr 9997 c (by omega) w
 rw [show 9997 + 2 = 9999 from rfl] at e1
 have e2 := eqU 9998 (reg c 32) w
 rw [show 9998 + 1 = 9999 from rfl] at e2
 have e3 := eqf_last (P := Try.prog) (d := 9999) (xs := cv c) (ys := cv c) (f := ⟨"Pc", 22, 32, false, "", "", 128⟩) rfl h1 h1 e2
 have e4 := eqf_cons (P := Try.prog) (d := 9999) (xs := cv c) (ys := cv c) (f := ⟨"X", 23, 0, false, "", "", 0⟩) rfl (h0 w) (h0 w) e1 e3
 exact e4
theorem eqB (c : List Int) (hc : c.length = 33) (w : World) : (binOp .eql 25 (.agg (cv c)) (.agg (cv c))).run Try.prog w = .ok (.bool true) w := by
 rw [run_eql_struct, eqC c hc w]
 rfl
end Go.Proofs.Ytononmcodecmaaa.Cp
end
section
/- Layer 4: the machine (part KY). -/
namespace Go.Proofs.Ytononmcodecmaaa.Cp
open Go.RowKit Go.Maps Go.Proofs Go.Proofs.YtononmcodecmaaaW Go.Proofs.YtononmcodecmaaaW.PrintWords
set_option maxRecDepth 100000
set_option linter.unusedVariables false
set_option linter.unusedSimpArgs false
attribute [local go_sem] cv_set cv_at cv_size
theorem cnt_le (d c : List Int) : ∀ j, cnt d c j ≤ j
 | 0 => Nat.le_refl _
 | j + 1 => by
  have := cnt_le d c j
  unfold cnt
  split <;> omega
theorem cnt_same (d c : List Int) (j : Nat) (h : reg d j = reg c j) : cnt d c (j + 1) = cnt d c j := by
 show cnt d c j + (if reg d j ≠ reg c j then 1 else 0) = _
 rw [if_neg (fun e => e h)]
 omega
theorem cnt_other (d c : List Int) (j : Nat) (h : reg d j ≠ reg c j) : cnt d c (j + 1) = cnt d c j + 1 := by
 show cnt d c j + (if reg d j ≠ reg c j then 1 else 0) = _
 rw [if_pos h]
set_option maxHeartbeats 4000000 in
theorem row_CpuStays (z : Wd) (w : World) (hz : WdOk w z) : Calls Try.prog 5 #[.agg (wv z)] w fun e w' => e = .returned (.bool true) ∧ Below w.heap.size w w' := by
 have hl := hz.wc.len
 have HZ := Lib.hid hz
 have hb0 : Below w.heap.size w (w.alloc (.cells (wv z) 34)) := (Below.refl _ w).alloc (Nat.le_refl _) _
 have HLD := Lib.hid (Laid_calls z (w.alloc (.cells (wv z) 34)) ⟨hz.wc, hz.hA, hz.hB, hz.hS, hz.hT, hz.ans.below hb0, hz.rng, hz.len, hz.fuel⟩)
 clear hz hb0
 go_enter Try.func5, Try.ntmps5
 go_wp2_with (first | refine ldW rfl _ rfl _ rfl z (0, 0) (heap_alloc_new _ _) hl ?_ | (go_at_call 12; refine hold_ ?_))
 intro _
 refine HLD.out.mono ?_
 rintro e wa ⟨p, bl, q, n, f, l, rfl, hn, T0⟩
 have k0 : wa.heap[w.heap.size]? = some (.cells (wv z) 34 (0, 0)) := (T0.bel.block _ (by simp)).trans (heap_alloc_new _ _)
 have hB : Below w.heap.size w wa := ((Below.refl _ w).alloc (Nat.le_refl _) _).trans (T0.bel.mono (by simp))
 have hblw : w.heap.size < bl := by have := T0.hb; simp at this; omega
 have hza : w.heap.size + 1 ≤ wa.heap.size := by have := T0.bel.size; simpa using this
 have HM := Lib.hid T0.mem
 have K0 := Lib.hid k0
 have HB := Lib.hid hB
 have hpl := T0.mem.lt
 have hbll := T0.mem.map.lt
 clear T0 k0 hB HLD
 have hz0 : w.heap.size < wa.heap.size := by omega
 go_wp2_with (go_at_call 14; refine hold_ ?_)
 intro _
 refine (Mm.Cells_calls p bl n f wa HM.out (by omega)).mono ?_
 rintro e wb ⟨v1, l1, rfl, hrep, hlen, hown, _, hb⟩
 have HM2 := Lib.hid (HM.out.below hb)
 have K02 := Lib.hid ((hb.block w.heap.size (by omega)).trans K0.out)
 have HB2 := Lib.hid (belowS hb HB.out)
 have HO := Lib.hid hown
 have HREP := Lib.hid hrep
 have hzb : wa.heap.size ≤ wb.heap.size := hb.size
 have HNE : Hid (∀ g : Nat, wb.heap.size ≤ g → v1.ownBlock = none ∨ v1.ownBlock ≠ some g) := Lib.hid (by
  intro g hg
  cases hv : v1.ownBlock with
  | none => exact Or.inl rfl
  | some k =>
   refine Or.inr (fun e => ?_)
   have h5 := (World.ownsRow.lt hown k hv).2
   injection e with e
   omega)
 have hz0 : w.heap.size < wb.heap.size := by omega
 have hlen2 : l1.length ≤ 160 := by omega
 clear hb HM K0 HB hown hrep hlen
 have hst := stays_step z.c hl f
 have hlt := stepv_lt z.c f HM2.out.map.2.1
 have hwc := HZ.out.wc.step f HM2.out.map.2.1
 have hs := Step_calls z.c HZ.out.wc p bl n f wb HM2.out (by omega)
 have he := stepv_end z.c f
 obtain ⟨t, ht⟩ : ∃ t, stepv z.c f = t := ⟨_, rfl⟩
 rw [ht] at hst hs hlt hwc he
 obtain ⟨d, g, en⟩ := t
 simp only at hs hlt hwc he
 have hld := hwc.len
 have HS := Lib.hid hs
 have HST := Lib.hid hst
 have HWC := Lib.hid hwc
 clear hst hs hlt hwc ht
 go_wp2_with (first | refine ldS rfl _ rfl _ rfl z _ (0, 0) K02.out hl ?_ | (go_at_call 15; refine hold_ ?_))
 intro _
 refine HS.out.mono ?_
 rintro e wc ⟨rfl, n2, hn2, hm, hg⟩
 have k0c : wc.heap[w.heap.size]? = some (.cells (wv z) 34 (0, 0)) := (hg.block _ (by omega) (fun e => by injection e with e; omega)).trans K02.out
 have K0c := Lib.hid ((Below.heap_alloc wc (.cells (cv d) 25) w.heap.size (by have := hg.size; omega)).trans k0c)
 have hmd : Mm.MemAt ((wc.alloc (.cells (cv d) 25)).alloc (.cells (cv (z.c.set 0 0)) 25)) p bl n2 g := (hm.alloc _).alloc _
 have hod : Mm.OwnC ((wc.alloc (.cells (cv d) 25)).alloc (.cells (cv (z.c.set 0 0)) 25)) wa.heap.size v1 l1 := by
  have h1 : Mm.OwnC wc wa.heap.size v1 l1 := by
   refine World.ownsRow.kept HO.out hg ?_
   cases hv : v1.ownBlock with
   | none => exact Or.inl rfl
   | some k =>
    refine Or.inr (fun e => ?_)
    have := (World.ownsRow.lt HO.out k hv).1
    injection e with e
    omega
  exact (h1.below ((Below.refl _ wc).alloc (Nat.le_refl _) _)).below ((Below.refl _ _).alloc (Nat.le_refl _) _)
 have hbd : Below w.heap.size w ((wc.alloc (.cells (cv d) 25)).alloc (.cells (cv (z.c.set 0 0)) 25)) :=
  ((HB2.out.trans ⟨hg.os, hg.tape, hg.output, hg.size, fun k hk => hg.block k (by omega) (fun e => by injection e with e; omega)⟩).alloc (by have := hg.size; omega) _).alloc (by have := hg.size; simp; omega) _
 have k6 := heap_alloc2_old wc (.cells (cv d) 25) (.cells (cv (z.c.set 0 0)) 25)
 have k8 := heap_alloc2_new wc (.cells (cv d) 25) (.cells (cv (z.c.set 0 0)) 25)
 have hzc : wb.heap.size ≤ wc.heap.size := hg.size
 have HM8 := Lib.hid hmd
 have HO8 := Lib.hid hod
 have HB8 := Lib.hid hbd
 have K6 := Lib.hid k6
 have K8 := Lib.hid k8
 clear hm hg k0c hmd hod hbd k6 k8 K02 HB2 HO HM2 HS
 go_wp2_with (first | ((with_reducible refine gate_dst (N := 32) rfl ?_); refine hold_ ?_) | refine alC rfl rfl ?_ | refine stN rfl _ _ rfl _ rfl rfl zs hld rfl ?_ | refine stN rfl _ _ rfl _ rfl rfl zs hl rfl ?_ | refine ldS rfl _ rfl _ rfl z _ (0, 0) K0c.out hl ?_)
 intro _
 obtain ⟨g8, hg8⟩ : ∃ g8, g8 = wc.heap.size + 1 := ⟨_, rfl⟩
 obtain ⟨g6, hg6⟩ : ∃ g6, g6 = wc.heap.size := ⟨_, rfl⟩
 have hsz8 : ((wc.alloc (.cells (cv d) 25)).alloc (.cells (cv (z.c.set 0 0)) 25)).heap.size = wc.heap.size + 2 := by simp
 generalize ((wc.alloc (.cells (cv d) 25)).alloc (.cells (cv (z.c.set 0 0)) 25)) = W8 at *
 rw [← hg8] at K8 ⊢
 rw [← hg6] at K6 ⊢
 have hq6 : g6 < W8.heap.size := by omega
 have hq8 : g8 < W8.heap.size := by omega
 have hq0 : w.heap.size < g6 := by omega
 have hq7 : g6 < g8 := by omega
 have hz8 : wa.heap.size ≤ W8.heap.size := by omega
 have hwg : wa.heap.size ≤ g6 := by omega
 have hwb : wb.heap.size ≤ g6 := by omega
 clear hsz8 hg8 hg6 K0c hzc hzb hza hz0
 have hc0 := HZ.out.wc.set 0 0 (by omega)
 have hl0 := hc0.len
 have HF := Lib.hid fixed_calls
 have HST2 := HST.out
 clear HST HZ
 by_cases h0 : en = 0
 ·subst h0
  obtain ⟨hz0, hone⟩ := HST2.2.2 rfl
  simp only at hz0 hone
  clear HST2 he HNE
  have HONE := Lib.hid hone
  have HZ0 := Lib.hid hz0
  clear hone hz0
  have hc6 := fun j hj => cellC K6.out hld j hj
  have hc8 := fun j hj => cellC K8.out hl0 j hj
  go_wp2
  go_loopw [9, 10] (fun s9 s10 wr => ∃ j nd : Nat, j ≤ 32 ∧ s10 = .int .i64 j ∧ s9 = .int .i64 (cnt d (z.c.set 0 0) j : Nat) ∧ wr = W8.drewN nd) (fun _ s10 _ => 32 - (intOf s10).toNat)
  case atStart => exact ⟨0, 0, by omega, rfl, rfl, rfl⟩
  case round =>
   obtain ⟨j, nd, hj, rfl, rfl, rfl⟩ := hrel
   have wj : IntKind.i64.wrap ((j : Int) + 1) = (j : Int) + 1 := by rw [IntKind.wrap_i64]; omega
   have hcj := cnt_le d (z.c.set 0 0) j
   have wc1 : IntKind.i64.wrap (((cnt d (z.c.set 0 0) j : Nat) : Int) + 1) = ((cnt d (z.c.set 0 0) j : Nat) : Int) + 1 := by rw [IntKind.wrap_i64]; omega
   by_cases hlt : j < 32
   ·have a6 : (W8.drewN nd).cell? ⟨g6, j, none⟩ = some (.int .u32 (reg d j)) := hc6 j (by omega)
    have a8 : (W8.drewN nd).cell? ⟨g8, j, none⟩ = some (.int .u32 (reg (z.c.set 0 0) j)) := hc8 j (by omega)
    have g1 : (j : Int) < 32 := by omega
    by_cases hne : reg d j = reg (z.c.set 0 0) j
    ·have e1 : (reg d j != reg (z.c.set 0 0) j) = false := by rw [hne]; simp
     have HNQ := Lib.hid hne
     clear hne
     go_wp2
     refine wp_region_held_drew (S := fun w' => w'.cell? ⟨g6, j, none⟩ = some (.int .u32 (reg d j)) ∧ w'.cell? ⟨g8, j, none⟩ = some (.int .u32 (reg (z.c.set 0 0) j))) (by kernel_rfl) ⟨a6, a8⟩ (fun hHeld => ?_)
     refine rh_take (i := 0) (k := 71) (v := ?_) rfl rfl (by kernel_rfl) (by kernel_rfl) (by kernel_rfl) (fun _ _ _ h => h) (Or.inl ⟨by rfl, ?_⟩) hHeld ?_
     rotate_left
     ·(intro w hSw; obtain ⟨s0, s1⟩ := hSw; go_simp; try with_reducible rfl)
     simp only [Act.put, List.setIfInBounds_toArray, List.set_cons_zero, List.set_cons_succ]
     refine rh_take (i := 1) (k := 72) (v := ?_) rfl rfl (by kernel_rfl) (by kernel_rfl) (by kernel_rfl) (fun _ _ _ h => h) (Or.inl ⟨by rfl, ?_⟩) hHeld ?_
     rotate_left
     ·(intro w hSw; obtain ⟨s0, s1⟩ := hSw; go_simp; try with_reducible rfl)
     simp only [Act.put, List.setIfInBounds_toArray, List.set_cons_zero, List.set_cons_succ]
     refine rh_take (i := 2) (k := 73) (v := ?_) rfl rfl (by kernel_rfl) (by kernel_rfl) (by kernel_rfl) (fun _ _ _ h => h) (Or.inl ⟨by rfl, ?_⟩) hHeld ?_
     rotate_left
     ·(intro w hSw; obtain ⟨s0, s1⟩ := hSw; go_simp; try with_reducible rfl)
     simp only [Act.put, List.setIfInBounds_toArray, List.set_cons_zero, List.set_cons_succ]
     refine rh_take (i := 3) (k := 74) (v := ?_) rfl rfl (by kernel_rfl) (by kernel_rfl) (by kernel_rfl) (fun _ _ _ h => h) (Or.inl ⟨by rfl, ?_⟩) hHeld ?_
     rotate_left
     ·(intro w hSw; obtain ⟨s0, s1⟩ := hSw; go_simp; try with_reducible rfl)
     simp only [Act.put, List.setIfInBounds_toArray, List.set_cons_zero, List.set_cons_succ]
     refine rh_take (i := 4) (k := 75) (v := ?_) rfl rfl (by kernel_rfl) (by kernel_rfl) (by kernel_rfl) (fun _ _ _ h => h) (Or.inl ⟨by rfl, ?_⟩) hHeld ?_
     rotate_left
     ·(intro w hSw; obtain ⟨s0, s1⟩ := hSw; go_simp; try with_reducible rfl)
     simp only [Act.put, List.setIfInBounds_toArray, List.set_cons_zero, List.set_cons_succ]
     refine rh_take (i := 5) (k := 76) (v := ?_) rfl rfl (by kernel_rfl) (by kernel_rfl) (by kernel_rfl) (fun _ _ _ h => h) (Or.inl ⟨by rfl, ?_⟩) hHeld ?_
     rotate_left
     ·(intro w hSw; obtain ⟨s0, s1⟩ := hSw; go_simp; try with_reducible rfl)
     simp only [Act.put, List.setIfInBounds_toArray, List.set_cons_zero, List.set_cons_succ]
     refine rh_take (i := 6) (k := 77) (v := ?_) rfl rfl (by kernel_rfl) (by kernel_rfl) (by kernel_rfl) (fun _ _ _ h => h) (Or.inl ⟨by rfl, ?_⟩) hHeld ?_
     rotate_left
     ·(intro w hSw; obtain ⟨s0, s1⟩ := hSw; go_simp; try with_reducible rfl)
     simp only [Act.put, List.setIfInBounds_toArray, List.set_cons_zero, List.set_cons_succ]
     refine rh_take (i := 7) (k := 78) (v := ?_) rfl rfl (by kernel_rfl) (by kernel_rfl) (by kernel_rfl) (fun _ _ _ h => h) (Or.inl ⟨by rfl, ?_⟩) hHeld ?_
     rotate_left
     ·(intro w hSw; obtain ⟨s0, s1⟩ := hSw; go_simp; try with_reducible rfl)
     simp only [Act.put, List.setIfInBounds_toArray, List.set_cons_zero, List.set_cons_succ]
     refine rh_take (i := 8) (k := 79) (v := ?_) rfl rfl (by kernel_rfl) (by kernel_rfl) (by kernel_rfl) (fun _ _ _ h => h) (Or.inl ⟨by rfl, ?_⟩) hHeld ?_
     rotate_left
     ·(intro w hSw; obtain ⟨s0, s1⟩ := hSw; go_simp; try with_reducible rfl)
     simp only [Act.put, List.setIfInBounds_toArray, List.set_cons_zero, List.set_cons_succ]
     refine wpAnyH_done (by kernel_rfl) ?_ _
     clear hHeld
     go_wp2
     refine ⟨⟨j + 1, nd + 1, by omega, by go_num, ?_, rfl⟩, by simp [intOf]; omega⟩
     show Value.int .i64 _ = Value.int .i64 _
     rw [cnt_same _ _ _ HNQ.out]
    ·have e1 : (reg d j != reg (z.c.set 0 0) j) = true := bne_iff_ne.mpr hne
     have HNQ := Lib.hid hne
     clear hne
     go_wp2
     refine wp_region_held_drew (S := fun w' => w'.cell? ⟨g6, j, none⟩ = some (.int .u32 (reg d j)) ∧ w'.cell? ⟨g8, j, none⟩ = some (.int .u32 (reg (z.c.set 0 0) j))) (by kernel_rfl) ⟨a6, a8⟩ (fun hHeld => ?_)
     refine rh_take (i := 0) (k := 71) (v := ?_) rfl rfl (by kernel_rfl) (by kernel_rfl) (by kernel_rfl) (fun _ _ _ h => h) (Or.inl ⟨by rfl, ?_⟩) hHeld ?_
     rotate_left
     ·(intro w hSw; obtain ⟨s0, s1⟩ := hSw; go_simp; try with_reducible rfl)
     simp only [Act.put, List.setIfInBounds_toArray, List.set_cons_zero, List.set_cons_succ]
     refine rh_take (i := 1) (k := 72) (v := ?_) rfl rfl (by kernel_rfl) (by kernel_rfl) (by kernel_rfl) (fun _ _ _ h => h) (Or.inl ⟨by rfl, ?_⟩) hHeld ?_
     rotate_left
     ·(intro w hSw; obtain ⟨s0, s1⟩ := hSw; go_simp; try with_reducible rfl)
     simp only [Act.put, List.setIfInBounds_toArray, List.set_cons_zero, List.set_cons_succ]
     refine rh_take (i := 2) (k := 73) (v := ?_) rfl rfl (by kernel_rfl) (by kernel_rfl) (by kernel_rfl) (fun _ _ _ h => h) (Or.inl ⟨by rfl, ?_⟩) hHeld ?_
     rotate_left
     ·(intro w hSw; obtain ⟨s0, s1⟩ := hSw; go_simp; try with_reducible rfl)
     simp only [Act.put, List.setIfInBounds_toArray, List.set_cons_zero, List.set_cons_succ]
     refine rh_take (i := 3) (k := 74) (v := ?_) rfl rfl (by kernel_rfl) (by kernel_rfl) (by kernel_rfl) (fun _ _ _ h => h) (Or.inl ⟨by rfl, ?_⟩) hHeld ?_
     rotate_left
     ·(intro w hSw; obtain ⟨s0, s1⟩ := hSw; go_simp; try with_reducible rfl)
     simp only [Act.put, List.setIfInBounds_toArray, List.set_cons_zero, List.set_cons_succ]
     refine rh_take (i := 4) (k := 75) (v := ?_) rfl rfl (by kernel_rfl) (by kernel_rfl) (by kernel_rfl) (fun _ _ _ h => h) (Or.inl ⟨by rfl, ?_⟩) hHeld ?_
     rotate_left
     ·(intro w hSw; obtain ⟨s0, s1⟩ := hSw; go_simp; try with_reducible rfl)
     simp only [Act.put, List.setIfInBounds_toArray, List.set_cons_zero, List.set_cons_succ]
     refine rh_take (i := 5) (k := 76) (v := ?_) rfl rfl (by kernel_rfl) (by kernel_rfl) (by kernel_rfl) (fun _ _ _ h => h) (Or.inl ⟨by rfl, ?_⟩) hHeld ?_
     rotate_left
     ·(intro w hSw; obtain ⟨s0, s1⟩ := hSw; go_simp; try with_reducible rfl)
     simp only [Act.put, List.setIfInBounds_toArray, List.set_cons_zero, List.set_cons_succ]
     refine rh_take (i := 6) (k := 77) (v := ?_) rfl rfl (by kernel_rfl) (by kernel_rfl) (by kernel_rfl) (fun _ _ _ h => h) (Or.inl ⟨by rfl, ?_⟩) hHeld ?_
     rotate_left
     ·(intro w hSw; obtain ⟨s0, s1⟩ := hSw; go_simp; try with_reducible rfl)
     simp only [Act.put, List.setIfInBounds_toArray, List.set_cons_zero, List.set_cons_succ]
     refine rh_take (i := 7) (k := 78) (v := ?_) rfl rfl (by kernel_rfl) (by kernel_rfl) (by kernel_rfl) (fun _ _ _ h => h) (Or.inl ⟨by rfl, ?_⟩) hHeld ?_
     rotate_left
     ·(intro w hSw; obtain ⟨s0, s1⟩ := hSw; go_simp; try with_reducible rfl)
     simp only [Act.put, List.setIfInBounds_toArray, List.set_cons_zero, List.set_cons_succ]
     refine rh_take (i := 8) (k := 79) (v := ?_) rfl rfl (by kernel_rfl) (by kernel_rfl) (by kernel_rfl) (fun _ _ _ h => h) (Or.inl ⟨by rfl, ?_⟩) hHeld ?_
     rotate_left
     ·(intro w hSw; obtain ⟨s0, s1⟩ := hSw; go_simp; try with_reducible rfl)
     simp only [Act.put, List.setIfInBounds_toArray, List.set_cons_zero, List.set_cons_succ]
     refine wpAnyH_done (by kernel_rfl) ?_ _
     clear hHeld
     go_wp2
     refine ⟨⟨j + 1, nd + 1, by omega, by go_num, ?_, rfl⟩, by simp [intOf]; omega⟩
     show Value.int .i64 _ = Value.int .i64 _
     rw [cnt_other _ _ _ HNQ.out]; rfl
   ·obtain rfl : j = 32 := by omega
    have hle : cnt d (z.c.set 0 0) 32 ≤ 1 := HONE.out.elim (fun h => by rw [cnt_zero d _ h 32 (Nat.le_refl _)]; exact Nat.zero_le _) (fun h => cnt_one d _ h.1 32 (Nat.le_refl _))
    have hgf : cnt d (z.c.set 0 0) 32 ≠ 0 → g = f := fun h => HONE.out.elim (fun h2 => absurd (cnt_zero d _ h2 32 (Nat.le_refl _)) h) (fun h2 => h2.2)
    have hx0 : W8.cell? ⟨g6, 0, none⟩ = some (.int .u32 0) := (hc6 0 (by omega)).trans (by rw [HZ0.out])
    have hm9 : Mm.MemAt (W8.drewN nd) p bl n2 g := HM8.out.below (below_drewN (Below.refl _ _) nd)
    have ho9 : Mm.OwnC (W8.drewN nd) wa.heap.size v1 l1 := HO8.out.below (below_drewN (Below.refl _ _) nd)
    have hb9 : Below w.heap.size w (W8.drewN nd) := below_drewN HB8.out nd
    have hz9 : wa.heap.size ≤ (W8.drewN nd).heap.size := hz8
    have hx9 : (W8.drewN nd).cell? ⟨g6, 0, none⟩ = some (.int .u32 0) := hx0
    generalize cnt d (z.c.set 0 0) 32 = C at *
    have HM9 := Lib.hid hm9
    have HO9 := Lib.hid ho9
    have HB9 := Lib.hid hb9
    clear hm9 ho9 hb9 HM8 HO8 HB8 hx0 hc6 hc8 HONE HZ0 K6 K8 hq6 hq8 hz8 wj wc1 hcj hlt
    generalize W8.drewN nd = W9 at *
    by_cases hC : C = 0
    ·subst hC
     clear hle hgf
     go_wp2_with (go_at_call 11; refine hold_ ?_)
     intro _
     refine (HF.out _).mono ?_
     rintro e w11 ⟨rfl, hb11⟩
     have HB11 := Lib.hid (belowS hb11 HB9.out)
     clear hb11 HB9
     go_wp2
     go_ret
     exact ⟨rfl, HB11.out⟩
    ·obtain rfl : C = 1 := by omega
     obtain rfl : g = f := hgf hC
     clear hle hgf hC
     have HM8 := HM9
     have HO8 := HO9
     have HB8 := HB9
     clear HM9 HO9 HB9
     go_wp2_with (first | (go_at_call 14; refine hold_ ?_))
     intro _
     refine (Mm.Cells_calls p bl n2 g W9 HM8.out (by omega)).mono ?_
     rintro e w9 ⟨v2, l2, rfl, hrep2, hlen3, hown2, _, hb9⟩
     have heql : l2 = l1 := hrep2.unique HREP.out
     have hs9 := Mm.Same_calls W9.heap.size wa.heap.size v2 v1 l2 l1 w9 hown2 (HO8.out.below hb9) (by omega) (by omega)
     rw [heql, decide_eq_true rfl] at hs9
     have HS9 := Lib.hid hs9
     have HB9 := Lib.hid (belowS hb9 HB8.out)
     clear hs9 heql hrep2 hlen3 hown2 hb9 HM8 HO8 HB8 HREP hz9
     go_wp2_with (go_at_call 16; refine hold_ ?_)
     intro _
     refine HS9.out.mono ?_
     rintro e w10 ⟨rfl, nd, rfl⟩
     have HB10 := Lib.hid (belowS (PrintWords.Drawn0.below ⟨⟨nd, rfl⟩⟩) HB9.out)
     clear HS9 HB9
     generalize w9.drewN nd = w12 at *
     go_wp2_with (go_at_call 11; refine hold_ ?_)
     intro _
     refine (HF.out _).mono ?_
     rintro e w11 ⟨rfl, hb11⟩
     have HB11 := Lib.hid (belowS hb11 HB10.out)
     clear hb11 HB10
     go_wp2
     go_ret
     exact ⟨rfl, HB11.out⟩
 by_cases h1 : en = 1
 ·subst h1
  obtain ⟨e1, e2⟩ := HST2.2.1 rfl
  simp only at e1 e2
  subst e1
  subst e2
  clear HST2 h0 he
  have hcpc := cellC K8.out hl0 32 (by omega)
  have hfz : World.frozen? W8 ⟨g8, 32, none⟩ = false := frozen_of_row _ _ _ _ _ K8.out
  have hst := stRow K8.out 32 ((reg (z.c.set 0 0) 32 + 4) % 4294967296)
  have hld6 := hld
  have hld8 := hld
  have heq := fun w => eqB ((z.c.set 0 0).set 32 ((reg (z.c.set 0 0) 32 + 4) % 4294967296)) hld w
  have k6 := (setRow_other W8 g8 g6 (cv ((z.c.set 0 0).set 32 ((reg (z.c.set 0 0) 32 + 4) % 4294967296))) (by omega)).trans K6.out
  have k8 := setRow_heap W8 g8 _ (cv ((z.c.set 0 0).set 32 ((reg (z.c.set 0 0) 32 + 4) % 4294967296))) _ _ K8.out
  have hm8 := mem_setRow HM8.out (g := g8) (by omega) (by omega) (cv ((z.c.set 0 0).set 32 ((reg (z.c.set 0 0) 32 + 4) % 4294967296)))
  have hb8 := below_setRow HB8.out (g := g8) (by omega) (cv ((z.c.set 0 0).set 32 ((reg (z.c.set 0 0) 32 + 4) % 4294967296)))
  have ho8 : Mm.OwnC (W8.setRow g8 (cv ((z.c.set 0 0).set 32 ((reg (z.c.set 0 0) 32 + 4) % 4294967296)))) wa.heap.size v1 l1 := World.ownsRow.kept HO8.out (grown_row _ _ _) (HNE.out g8 (by omega))
  have HM9 := Lib.hid hm8
  have HO9 := Lib.hid ho8
  have HB9 := Lib.hid hb8
  have K6n := Lib.hid k6
  have K8n := Lib.hid k8
  have hz9 : wa.heap.size ≤ (W8.setRow g8 (cv ((z.c.set 0 0).set 32 ((reg (z.c.set 0 0) 32 + 4) % 4294967296)))).heap.size := by rw [size_setRow]; exact hz8
  clear hm8 ho8 hb8 k6 k8 HM8 HO8 HB8 K6
  go_wp2_with (first | refine ldC rfl _ rfl _ rfl _ (0, 0) K6n.out hld6 ?_ | refine ldC rfl _ rfl _ rfl _ (0, 0) K8n.out hld8 ?_ | (go_at_call 14; refine hold_ ?_))
  intro _
  generalize W8.setRow g8 (cv ((z.c.set 0 0).set 32 ((reg (z.c.set 0 0) 32 + 4) % 4294967296))) = W9 at *
  have HM8 := HM9
  have HO8 := HO9
  have HB8 := HB9
  clear HM9 HO9 HB9 hst
  refine (Mm.Cells_calls p bl n2 g W9 HM8.out (by omega)).mono ?_
  rintro e w9 ⟨v2, l2, rfl, hrep2, hlen3, hown2, _, hb9⟩
  have heql : l2 = l1 := hrep2.unique HREP.out
  have hs9 := Mm.Same_calls W9.heap.size wa.heap.size v2 v1 l2 l1 w9 hown2 (HO8.out.below hb9) (by omega) (by omega)
  rw [heql, decide_eq_true rfl] at hs9
  have HS9 := Lib.hid hs9
  have HB9 := Lib.hid (belowS hb9 HB8.out)
  clear hs9 heql hrep2 hlen3 hown2 hb9 HM8 HO8 HB8 HREP K6n K8n K8 hq6 hq8 hz8 hz9
  go_wp2_with (go_at_call 16; refine hold_ ?_)
  intro _
  refine HS9.out.mono ?_
  rintro e w10 ⟨rfl, nd, rfl⟩
  have HB10 := Lib.hid (belowS (PrintWords.Drawn0.below ⟨⟨nd, rfl⟩⟩) HB9.out)
  clear HS9 HB9
  generalize w9.drewN nd = w12 at *
  go_wp2_with (go_at_call 11; refine hold_ ?_)
  intro _
  refine (HF.out _).mono ?_
  rintro e w11 ⟨rfl, hb11⟩
  have HB11 := Lib.hid (belowS hb11 HB10.out)
  clear hb11 HB10
  go_wp2
  go_ret
  exact ⟨rfl, HB11.out⟩
 ·have b0 : (en != 0) = true := bne_iff_ne.mpr h0
  have b1 : (en != 1) = true := bne_iff_ne.mpr h1
  obtain ⟨e1, e2⟩ := HST2.1 h0 h1
  simp only at e1 e2
  subst e1
  subst e2
  clear HST2 h0 h1 he
  have hld6 := hl0
  have hld8 := hl0
  have heq := fun w => eqB (z.c.set 0 0) hl0 w
  go_wp2_with (first | refine ldC rfl _ rfl _ rfl _ (0, 0) K6.out hld6 ?_ | refine ldC rfl _ rfl _ rfl _ (0, 0) K8.out hld8 ?_ | (go_at_call 14; refine hold_ ?_))
  intro _
  refine (Mm.Cells_calls p bl n2 g W8 HM8.out (by omega)).mono ?_
  rintro e w9 ⟨v2, l2, rfl, hrep2, hlen3, hown2, _, hb9⟩
  have heql : l2 = l1 := hrep2.unique HREP.out
  have hs9 := Mm.Same_calls W8.heap.size wa.heap.size v2 v1 l2 l1 w9 hown2 (HO8.out.below hb9) (by omega) (by omega)
  rw [heql, decide_eq_true rfl] at hs9
  have HS9 := Lib.hid hs9
  have HB9 := Lib.hid (belowS hb9 HB8.out)
  clear hs9 heql hrep2 hlen3 hown2 hb9 HM8 HO8 HB8 HREP K6 K8 hq6 hq8 hz8
  go_wp2_with (go_at_call 16; refine hold_ ?_)
  intro _
  refine HS9.out.mono ?_
  rintro e w10 ⟨rfl, nd, rfl⟩
  have HB10 := Lib.hid (belowS (PrintWords.Drawn0.below ⟨⟨nd, rfl⟩⟩) HB9.out)
  clear HS9 HB9
  generalize w9.drewN nd = w12 at *
  go_wp2_with (go_at_call 11; refine hold_ ?_)
  intro _
  refine (HF.out _).mono ?_
  rintro e w11 ⟨rfl, hb11⟩
  have HB11 := Lib.hid (belowS hb11 HB10.out)
  clear hb11 HB10
  go_wp2
  go_ret
  exact ⟨rfl, HB11.out⟩
end Go.Proofs.Ytononmcodecmaaa.Cp
end
