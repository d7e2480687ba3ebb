import Derived.Test.YtononmcodecmaaaZKT
import Derived.Test.YtononmcodecmaaaZMO
import Derived.Test.YtononmcodecmaaaZOP
import Derived.OpenShut
import Derived.WideShapes
import Derived.ProofKit
import Derived.ChangeKeysEq
import Derived.BigFrame
import Derived.Deep.WholeRow
import Derived.Test.YtononmcodecmaaaZLA
import Derived.Test.YtononmcodecmaaaZQx
import Derived.WalkKit
import Derived.KernelRfl
import Derived.Below
import Derived.Outline
import Derived.LoopTactic
import Derived.Laws.BitsLemmas
import Derived.Laws.BitsAllLaws
import Derived.Deep.LoopGhost
import Derived.Lib.Hide
import Derived.Deep.QuietTactic
import Derived.BigQuiet
import Derived.Deep.Draws
import Derived.Laws.StructEq
import Derived.Deep.Slices
import Derived.Deep.Fields
import Derived.ChangeSame
import Derived.Deep.CutBlock
import Derived.Deep.DeepCutAuto
import Derived.Deep.RegionHeld3
import Derived.StillTailTactics
import Derived.WalkSmall
import Derived.OwnWalk
import Derived.Laws.OwnMore
import Derived.Laws.BytesArg
import Derived.Laws.MakeOwn
import Derived.Laws.Tables
import Derived.Laws.Rows
import Derived.Laws.World
import Derived.Test.YtononmcodecmaaaZKS
section
/- Layer 4: the machine (part KU). -/
namespace Go.Proofs.Ytononmcodecmaaa.Cp
open Go.RowKit Go.Maps Go.Proofs Go.Proofs.YtononmcodecmaaaW Go.Proofs.YtononmcodecmaaaW.PrintWords
set_option maxRecDepth 100000
set_option linter.unusedVariables false
set_option linter.unusedSimpArgs false
attribute [local go_sem] cv_set cv_at cv_size
theorem wv_at (z : Wd) (hl : z.c.length = 33) : (wv z)[33]? = some (.int .u32 z.A) ∧ (wv z)[34]? = some (.int .u32 z.B) ∧ (wv z)[35]? = some (.string z.S) ∧ (wv z)[36]? = some (.string z.T) ∧ (wv z)[37]? = some (.slice z.an z.ans.length z.ac) ∧ (wv z)[38]? = some (.int .i64 z.fuel) := by
  simp [wv, List.getElem?_append, hl]
theorem wv_c (z : Wd) (hl : z.c.length = 33) (i : Nat) (hi : i < 33) : (wv z)[i]? = some (.int .u32 (reg z.c i)) := by
  simp [wv, List.getElem?_append, hl, hi, reg, List.getD_eq_getElem?_getD]
set_option maxHeartbeats 2000000 in
theorem Laid_calls (z : Wd) (w : World) (hz : WdOk w z) : Calls Try.prog 12 #[.agg (wv z)] w fun e w' => ∃ p b q n f l, e = .returned (.tuple #[.pointer (some ⟨p, 0, none⟩), .pointer (some ⟨q, 0, none⟩)]) ∧ n ≤ 160 ∧ Mm.Two w w' p b q n f l := by
  have hl := hz.wc.len
  have HZ := Lib.hid hz
  go_enter Try.func12, Try.ntmps12
  go_wp2_with (go_at_call 28; refine hold_ ?_)
  intro _
  refine (Mm.New_calls _).mono ?_
  rintro e wa ⟨rfl, hm, hg⟩
  have k0 : wa.heap[w.heap.size]? = some (.cells (wv z) 34 (0, 0)) := (hg.block _ (by simp) (fun e => by cases e)).trans (heap_alloc_new _ _)
  have hB : Below w.heap.size w wa := ((Below.refl _ w).alloc (Nat.le_refl _) _).trans ⟨hg.os, hg.tape, hg.output, hg.size, fun k hk => hg.block k (by simp; omega) (fun e => by cases e)⟩
  have hza : w.heap.size + 1 ≤ wa.heap.size := by have := hg.size; simpa using this
  obtain ⟨bl, hbl⟩ : ∃ bl, bl = (w.alloc (.cells (wv z) 34)).heap.size := ⟨_, rfl⟩
  obtain ⟨p, hp⟩ : ∃ p, p = (w.alloc (.cells (wv z) 34)).heap.size + 1 := ⟨_, rfl⟩
  rw [← hp, ← hbl] at hm
  rw [← hp]
  have hblw : w.heap.size < bl := by rw [hbl]; simp
  have hpw : w.heap.size ≤ p := by rw [hp]; simp; omega
  clear hg hp hbl
  have HM := Lib.hid hm
  have K0 := Lib.hid k0
  have HB := Lib.hid hB
  clear hm k0 hB
  go_wp2_with (go_at_call 29; refine hold_ ?_)
  intro _
  refine (Mm.rNew_calls wa).mono ?_
  rintro e wb ⟨rfl, hr, hg⟩
  have hb0 : Below wa.heap.size wa wb := ⟨hg.os, hg.tape, hg.output, hg.size, fun k hk => hg.block k hk (fun e => by cases e)⟩
  obtain ⟨q, hq⟩ : ∃ q, q = wa.heap.size := ⟨_, rfl⟩
  have T0 := Aside0.mk (⟨HM.out.below hb0, hr, by omega, by omega, belowS hb0 HB.out⟩ : Mm.Two w wb p bl wa.heap.size 0 (fun _ => 0) [])
  have K1 := Lib.hid ((hb0.block w.heap.size (by omega)).trans K0.out)
  have hzb : w.heap.size + 1 ≤ wb.heap.size := Nat.le_trans hza hb0.size
  rw [← hq] at T0 ⊢
  have hqw : w.heap.size < q := by omega
  clear hr hg hb0 HM K0 HB hza hq
  obtain ⟨v33, v34, v35, v36, v37, v38⟩ := wv_at z hl
  obtain ⟨An, hAn⟩ : ∃ An : Nat, z.A = (An : Int) := ⟨z.A.toNat, by have := hz.hA; omega⟩
  have hA2 : An < 4294967296 := by have := hz.hA; omega
  obtain ⟨Bn, hBn⟩ : ∃ Bn : Nat, z.B = (Bn : Int) := ⟨z.B.toNat, by have := hz.hB; omega⟩
  have hB2 : Bn < 4294967296 := by have := hz.hB; omega
  have hcS := Mm.cut_le z.S 120
  have hcT := Mm.cut_le z.T 40
  obtain ⟨S1, hS1⟩ : ∃ S1, S1 = z.S.extract 0 (min (z.S.size : Int) 120).toNat := ⟨_, rfl⟩
  obtain ⟨T1, hT1⟩ : ∃ T1, T1 = z.T.extract 0 (min (z.T.size : Int) 40).toNat := ⟨_, rfl⟩
  have hcS : S1.size ≤ 120 := by rw [hS1]; exact hcS
  have hcT : T1.size ≤ 40 := by rw [hT1]; exact hcT
  have HS1 := Lib.hid hS1
  have HT1 := Lib.hid hT1
  clear hS1 hT1
  have mS : 0 ≤ min (z.S.size : Int) 120 ∧ min (z.S.size : Int) 120 ≤ (z.S.size : Int) := by omega
  have mT : 0 ≤ min (z.T.size : Int) 40 ∧ min (z.T.size : Int) 40 ≤ (z.T.size : Int) := by omega
  have V33 := Lib.hid v33
  have V34 := Lib.hid v34
  have V35 := Lib.hid v35
  have V36 := Lib.hid v36
  clear v33 v34 v35 v36 v37 v38 hz
  rw [hAn] at V33
  rw [hBn] at V34
  clear hAn hBn
  have xa := (cellOf K1.out 33).trans V33.out
  have xs := (cellOf K1.out 35).trans V35.out
  have hzq : w.heap.size < wb.heap.size := by omega
  go_wp2
  refine wp_region_held_drew (S := fun w' => w'.cell? ⟨w.heap.size, 33, none⟩ = some (.int .u32 An) ∧ w'.cell? ⟨w.heap.size, 35, none⟩ = some (.string z.S)) (by kernel_rfl) ⟨xa, xs⟩ (fun hHeld => ?_)
  refine rh_take (i := 0) (k := 12) (v := ?_) rfl rfl (by kernel_rfl) (by kernel_rfl) (by kernel_rfl) (fun _ _ _ h => h) (Or.inl ⟨by rfl, ?_⟩) hHeld ?_
  rotate_left
  · (intro w hSw; obtain ⟨s0, s1⟩ := hSw; go_simp; try with_reducible rfl)
  simp only [Act.put, List.setIfInBounds_toArray, List.set_cons_zero, List.set_cons_succ]
  refine rh_take (i := 1) (k := 13) (v := ?_) rfl rfl (by kernel_rfl) (by kernel_rfl) (by kernel_rfl) (fun _ _ _ h => h) (Or.inl ⟨by rfl, ?_⟩) hHeld ?_
  rotate_left
  · (intro w hSw; obtain ⟨s0, s1⟩ := hSw; go_simp; try with_reducible rfl)
  simp only [Act.put, List.setIfInBounds_toArray, List.set_cons_zero, List.set_cons_succ]
  refine rh_take (i := 2) (k := 14) (v := ?_) rfl rfl (by kernel_rfl) (by kernel_rfl) (by kernel_rfl) (fun _ _ _ h => h) (Or.inl ⟨by rfl, ?_⟩) hHeld ?_
  rotate_left
  · (intro w hSw; obtain ⟨s0, s1⟩ := hSw; go_simp; try with_reducible rfl)
  simp only [Act.put, List.setIfInBounds_toArray, List.set_cons_zero, List.set_cons_succ]
  refine rh_take (i := 3) (k := 15) (v := ?_) rfl rfl (by kernel_rfl) (by kernel_rfl) (by kernel_rfl) (fun _ _ _ h => h) (Or.inl ⟨by rfl, ?_⟩) hHeld ?_
  rotate_left
  · (intro w hSw; obtain ⟨s0, s1⟩ := hSw; go_simp; try with_reducible rfl)
  simp only [Act.put, List.setIfInBounds_toArray, List.set_cons_zero, List.set_cons_succ]
  refine rh_take (i := 4) (k := 16) (v := ?_) rfl rfl (by kernel_rfl) (by kernel_rfl) (by kernel_rfl) (fun _ _ _ h => h) (Or.inl ⟨by rfl, ?_⟩) hHeld ?_
  rotate_left
  · (intro w hSw; obtain ⟨s0, s1⟩ := hSw; go_simp; try with_reducible rfl)
  simp only [Act.put, List.setIfInBounds_toArray, List.set_cons_zero, List.set_cons_succ]
  refine rh_take (i := 5) (k := 17) (v := ?_) rfl rfl (by kernel_rfl) (by kernel_rfl) (by kernel_rfl) (fun _ _ _ h => h) (Or.inl ⟨by rfl, ?_⟩) hHeld ?_
  rotate_left
  · (intro w hSw; obtain ⟨s0, s1⟩ := hSw; go_simp; try with_reducible rfl)
  simp only [Act.put, List.setIfInBounds_toArray, List.set_cons_zero, List.set_cons_succ]
  refine rh_take (i := 6) (k := 18) (v := ?_) rfl rfl (by kernel_rfl) (by kernel_rfl) (by kernel_rfl) (fun _ _ _ h => h) (Or.inl ⟨by rfl, ?_⟩) hHeld ?_
  rotate_left
  · (intro w hSw; obtain ⟨s0, s1⟩ := hSw; go_simp; try with_reducible rfl)
  simp only [Act.put, List.setIfInBounds_toArray, List.set_cons_zero, List.set_cons_succ]
  refine rh_take (i := 7) (k := 19) (v := ?_) rfl rfl (by kernel_rfl) (by kernel_rfl) (by kernel_rfl) (fun _ _ _ h => h) (Or.inl ⟨by rfl, ?_⟩) hHeld ?_
  rotate_left
  · (intro w hSw; obtain ⟨s0, s1⟩ := hSw; go_simp; try with_reducible rfl)
  simp only [Act.put, List.setIfInBounds_toArray, List.set_cons_zero, List.set_cons_succ]
  refine rh_take (i := 8) (k := 20) (v := ?_) rfl rfl (by kernel_rfl) (by kernel_rfl) (by kernel_rfl) (fun _ _ _ h => h) (Or.inl ⟨by rfl, ?_⟩) hHeld ?_
  rotate_left
  · (intro w hSw; obtain ⟨s0, s1⟩ := hSw; go_simp; try with_reducible rfl)
  simp only [Act.put, List.setIfInBounds_toArray, List.set_cons_zero, List.set_cons_succ]
  refine rh_take (i := 9) (k := 21) (v := ?_) rfl rfl (by kernel_rfl) (by kernel_rfl) (by kernel_rfl) (fun _ _ _ h => h) (Or.inl ⟨by rfl, ?_⟩) hHeld ?_
  rotate_left
  · (intro w hSw; obtain ⟨s0, s1⟩ := hSw; go_simp; try with_reducible rfl)
  simp only [Act.put, List.setIfInBounds_toArray, List.set_cons_zero, List.set_cons_succ]
  rw [← HS1.out]
  refine wpAnyH_ready (rs := [10]) (by kernel_rfl) (by simp) ?_
  refine AllReadyH.cons (i := 10) rfl (fun K hK => ?_) AllReadyH.nil
  go_simp
  refine (Mm.Put_at (T0.out.mem.below (Below.refl _ wb).drew) An _ S1 rfl (by omega) hA2).mono ?_
  rintro e wc ⟨rfl, hm, hg⟩
  have M1 := Lib.hid hm
  have R1 := Lib.hid ((T0.out.ref.below (Below.refl _ wb).drew).other (T0.out.mem.below (Below.refl _ wb).drew) hg)
  have hbe : Below w.heap.size w wc := T0.out.bel.trans ((Below.refl _ wb).drew.trans ⟨hg.os, hg.tape, hg.output, hg.size, fun k hk => hg.block k (by show k < wb.heap.size; omega) (fun e => by injection e with e; omega)⟩)
  have B1 := Lib.hid hbe
  have k1 : wc.heap[w.heap.size]? = some (.cells (wv z) 34 (0, 0)) := (hg.block w.heap.size (by show w.heap.size < wb.heap.size; omega) (fun e => by injection e with e; omega)).trans K1.out
  have xa' := (cellOf k1 33).trans V33.out
  have xs' := (cellOf k1 35).trans V35.out
  have hzwc : w.heap.size + 1 ≤ wc.heap.size := Nat.le_trans (show w.heap.size + 1 ≤ wb.heap.size by omega) hg.size
  go_wp2_with fail
  refine hK.out _ _ ⟨xa', xs'⟩ (fun hHeld => ?_)
  clear hK K
  try simp only [Act.put, List.setIfInBounds_toArray, List.set_cons_zero, List.set_cons_succ]
  refine wpAnyH_done (by kernel_rfl) ?_ _
  have K1' := Lib.hid k1
  clear hHeld hg k1 xa xs xa' xs' hzq K1 hm hbe T0
  have K1 := K1'
  clear K1'
  have xa := (cellOf K1.out 33).trans V33.out
  have xs := (cellOf K1.out 35).trans V35.out
  have hzq : w.heap.size < wc.heap.size := by omega
  go_wp2
  refine wp_region_held_drew (S := fun w' => w'.cell? ⟨w.heap.size, 33, none⟩ = some (.int .u32 An) ∧ w'.cell? ⟨w.heap.size, 35, none⟩ = some (.string z.S)) (by kernel_rfl) ⟨xa, xs⟩ (fun hHeld => ?_)
  refine rh_take (i := 0) (k := 23) (v := ?_) rfl rfl (by kernel_rfl) (by kernel_rfl) (by kernel_rfl) (fun _ _ _ h => h) (Or.inl ⟨by rfl, ?_⟩) hHeld ?_
  rotate_left
  · (intro w hSw; obtain ⟨s0, s1⟩ := hSw; go_simp; try with_reducible rfl)
  simp only [Act.put, List.setIfInBounds_toArray, List.set_cons_zero, List.set_cons_succ]
  refine rh_take (i := 1) (k := 24) (v := ?_) rfl rfl (by kernel_rfl) (by kernel_rfl) (by kernel_rfl) (fun _ _ _ h => h) (Or.inl ⟨by rfl, ?_⟩) hHeld ?_
  rotate_left
  · (intro w hSw; obtain ⟨s0, s1⟩ := hSw; go_simp; try with_reducible rfl)
  simp only [Act.put, List.setIfInBounds_toArray, List.set_cons_zero, List.set_cons_succ]
  refine rh_take (i := 2) (k := 25) (v := ?_) rfl rfl (by kernel_rfl) (by kernel_rfl) (by kernel_rfl) (fun _ _ _ h => h) (Or.inl ⟨by rfl, ?_⟩) hHeld ?_
  rotate_left
  · (intro w hSw; obtain ⟨s0, s1⟩ := hSw; go_simp; try with_reducible rfl)
  simp only [Act.put, List.setIfInBounds_toArray, List.set_cons_zero, List.set_cons_succ]
  refine rh_take (i := 3) (k := 26) (v := ?_) rfl rfl (by kernel_rfl) (by kernel_rfl) (by kernel_rfl) (fun _ _ _ h => h) (Or.inl ⟨by rfl, ?_⟩) hHeld ?_
  rotate_left
  · (intro w hSw; obtain ⟨s0, s1⟩ := hSw; go_simp; try with_reducible rfl)
  simp only [Act.put, List.setIfInBounds_toArray, List.set_cons_zero, List.set_cons_succ]
  refine rh_take (i := 4) (k := 27) (v := ?_) rfl rfl (by kernel_rfl) (by kernel_rfl) (by kernel_rfl) (fun _ _ _ h => h) (Or.inl ⟨by rfl, ?_⟩) hHeld ?_
  rotate_left
  · (intro w hSw; obtain ⟨s0, s1⟩ := hSw; go_simp; try with_reducible rfl)
  simp only [Act.put, List.setIfInBounds_toArray, List.set_cons_zero, List.set_cons_succ]
  refine rh_take (i := 5) (k := 28) (v := ?_) rfl rfl (by kernel_rfl) (by kernel_rfl) (by kernel_rfl) (fun _ _ _ h => h) (Or.inl ⟨by rfl, ?_⟩) hHeld ?_
  rotate_left
  · (intro w hSw; obtain ⟨s0, s1⟩ := hSw; go_simp; try with_reducible rfl)
  simp only [Act.put, List.setIfInBounds_toArray, List.set_cons_zero, List.set_cons_succ]
  refine rh_take (i := 6) (k := 29) (v := ?_) rfl rfl (by kernel_rfl) (by kernel_rfl) (by kernel_rfl) (fun _ _ _ h => h) (Or.inl ⟨by rfl, ?_⟩) hHeld ?_
  rotate_left
  · (intro w hSw; obtain ⟨s0, s1⟩ := hSw; go_simp; try with_reducible rfl)
  simp only [Act.put, List.setIfInBounds_toArray, List.set_cons_zero, List.set_cons_succ]
  refine rh_take (i := 7) (k := 30) (v := ?_) rfl rfl (by kernel_rfl) (by kernel_rfl) (by kernel_rfl) (fun _ _ _ h => h) (Or.inl ⟨by rfl, ?_⟩) hHeld ?_
  rotate_left
  · (intro w hSw; obtain ⟨s0, s1⟩ := hSw; go_simp; try with_reducible rfl)
  simp only [Act.put, List.setIfInBounds_toArray, List.set_cons_zero, List.set_cons_succ]
  refine rh_take (i := 8) (k := 31) (v := ?_) rfl rfl (by kernel_rfl) (by kernel_rfl) (by kernel_rfl) (fun _ _ _ h => h) (Or.inl ⟨by rfl, ?_⟩) hHeld ?_
  rotate_left
  · (intro w hSw; obtain ⟨s0, s1⟩ := hSw; go_simp; try with_reducible rfl)
  simp only [Act.put, List.setIfInBounds_toArray, List.set_cons_zero, List.set_cons_succ]
  refine rh_take (i := 9) (k := 32) (v := ?_) rfl rfl (by kernel_rfl) (by kernel_rfl) (by kernel_rfl) (fun _ _ _ h => h) (Or.inl ⟨by rfl, ?_⟩) hHeld ?_
  rotate_left
  · (intro w hSw; obtain ⟨s0, s1⟩ := hSw; go_simp; try with_reducible rfl)
  simp only [Act.put, List.setIfInBounds_toArray, List.set_cons_zero, List.set_cons_succ]
  rw [← HS1.out]
  refine wpAnyH_ready (rs := [10]) (by kernel_rfl) (by simp) ?_
  refine AllReadyH.cons (i := 10) rfl (fun K hK => ?_) AllReadyH.nil
  go_simp
  refine (Mm.rPut_calls q _ _ _ An S1 _ (R1.out.below (Below.refl _ wc).drew) (by omega) hA2).mono ?_
  rintro e wd ⟨rfl, hrr, hg⟩
  obtain ⟨lwd, hr⟩ := hrr
  have Twd := Aside0.mk (⟨(M1.out.below (Below.refl _ wc).drew).byRef (R1.out.below (Below.refl _ wc).drew) hg, hr, by omega, by omega, B1.out.trans ((Below.refl _ wc).drew.trans ⟨hg.os, hg.tape, hg.output, hg.size, fun k hk => hg.block k (by show k < wc.heap.size; omega) (fun e => by injection e with e; omega)⟩)⟩ : Mm.Two w wd p bl q _ _ lwd)
  have k1 : wd.heap[w.heap.size]? = some (.cells (wv z) 34 (0, 0)) := (hg.block w.heap.size (by show w.heap.size < wc.heap.size; omega) (fun e => by injection e with e; omega)).trans K1.out
  have xa' := (cellOf k1 33).trans V33.out
  have xs' := (cellOf k1 35).trans V35.out
  have hzwd : w.heap.size + 1 ≤ wd.heap.size := Nat.le_trans (show w.heap.size + 1 ≤ wc.heap.size by omega) hg.size
  go_wp2_with fail
  refine hK.out _ _ ⟨xa', xs'⟩ (fun hHeld => ?_)
  clear hK K
  try simp only [Act.put, List.setIfInBounds_toArray, List.set_cons_zero, List.set_cons_succ]
  refine wpAnyH_done (by kernel_rfl) ?_ _
  have K1' := Lib.hid k1
  clear hHeld hg k1 xa xs xa' xs' hzq K1 hr M1 R1 B1
  have K1 := K1'
  clear K1'
  have xa := (cellOf K1.out 34).trans V34.out
  have xs := (cellOf K1.out 36).trans V36.out
  have hzq : w.heap.size < wd.heap.size := by omega
  go_wp2
  refine wp_region_held_drew (S := fun w' => w'.cell? ⟨w.heap.size, 34, none⟩ = some (.int .u32 Bn) ∧ w'.cell? ⟨w.heap.size, 36, none⟩ = some (.string z.T)) (by kernel_rfl) ⟨xa, xs⟩ (fun hHeld => ?_)
  refine rh_take (i := 0) (k := 34) (v := ?_) rfl rfl (by kernel_rfl) (by kernel_rfl) (by kernel_rfl) (fun _ _ _ h => h) (Or.inl ⟨by rfl, ?_⟩) hHeld ?_
  rotate_left
  · (intro w hSw; obtain ⟨s0, s1⟩ := hSw; go_simp; try with_reducible rfl)
  simp only [Act.put, List.setIfInBounds_toArray, List.set_cons_zero, List.set_cons_succ]
  refine rh_take (i := 1) (k := 35) (v := ?_) rfl rfl (by kernel_rfl) (by kernel_rfl) (by kernel_rfl) (fun _ _ _ h => h) (Or.inl ⟨by rfl, ?_⟩) hHeld ?_
  rotate_left
  · (intro w hSw; obtain ⟨s0, s1⟩ := hSw; go_simp; try with_reducible rfl)
  simp only [Act.put, List.setIfInBounds_toArray, List.set_cons_zero, List.set_cons_succ]
  refine rh_take (i := 2) (k := 36) (v := ?_) rfl rfl (by kernel_rfl) (by kernel_rfl) (by kernel_rfl) (fun _ _ _ h => h) (Or.inl ⟨by rfl, ?_⟩) hHeld ?_
  rotate_left
  · (intro w hSw; obtain ⟨s0, s1⟩ := hSw; go_simp; try with_reducible rfl)
  simp only [Act.put, List.setIfInBounds_toArray, List.set_cons_zero, List.set_cons_succ]
  refine rh_take (i := 3) (k := 37) (v := ?_) rfl rfl (by kernel_rfl) (by kernel_rfl) (by kernel_rfl) (fun _ _ _ h => h) (Or.inl ⟨by rfl, ?_⟩) hHeld ?_
  rotate_left
  · (intro w hSw; obtain ⟨s0, s1⟩ := hSw; go_simp; try with_reducible rfl)
  simp only [Act.put, List.setIfInBounds_toArray, List.set_cons_zero, List.set_cons_succ]
  refine rh_take (i := 4) (k := 38) (v := ?_) rfl rfl (by kernel_rfl) (by kernel_rfl) (by kernel_rfl) (fun _ _ _ h => h) (Or.inl ⟨by rfl, ?_⟩) hHeld ?_
  rotate_left
  · (intro w hSw; obtain ⟨s0, s1⟩ := hSw; go_simp; try with_reducible rfl)
  simp only [Act.put, List.setIfInBounds_toArray, List.set_cons_zero, List.set_cons_succ]
  refine rh_take (i := 5) (k := 39) (v := ?_) rfl rfl (by kernel_rfl) (by kernel_rfl) (by kernel_rfl) (fun _ _ _ h => h) (Or.inl ⟨by rfl, ?_⟩) hHeld ?_
  rotate_left
  · (intro w hSw; obtain ⟨s0, s1⟩ := hSw; go_simp; try with_reducible rfl)
  simp only [Act.put, List.setIfInBounds_toArray, List.set_cons_zero, List.set_cons_succ]
  refine rh_take (i := 6) (k := 40) (v := ?_) rfl rfl (by kernel_rfl) (by kernel_rfl) (by kernel_rfl) (fun _ _ _ h => h) (Or.inl ⟨by rfl, ?_⟩) hHeld ?_
  rotate_left
  · (intro w hSw; obtain ⟨s0, s1⟩ := hSw; go_simp; try with_reducible rfl)
  simp only [Act.put, List.setIfInBounds_toArray, List.set_cons_zero, List.set_cons_succ]
  refine rh_take (i := 7) (k := 41) (v := ?_) rfl rfl (by kernel_rfl) (by kernel_rfl) (by kernel_rfl) (fun _ _ _ h => h) (Or.inl ⟨by rfl, ?_⟩) hHeld ?_
  rotate_left
  · (intro w hSw; obtain ⟨s0, s1⟩ := hSw; go_simp; try with_reducible rfl)
  simp only [Act.put, List.setIfInBounds_toArray, List.set_cons_zero, List.set_cons_succ]
  refine rh_take (i := 8) (k := 42) (v := ?_) rfl rfl (by kernel_rfl) (by kernel_rfl) (by kernel_rfl) (fun _ _ _ h => h) (Or.inl ⟨by rfl, ?_⟩) hHeld ?_
  rotate_left
  · (intro w hSw; obtain ⟨s0, s1⟩ := hSw; go_simp; try with_reducible rfl)
  simp only [Act.put, List.setIfInBounds_toArray, List.set_cons_zero, List.set_cons_succ]
  refine rh_take (i := 9) (k := 43) (v := ?_) rfl rfl (by kernel_rfl) (by kernel_rfl) (by kernel_rfl) (fun _ _ _ h => h) (Or.inl ⟨by rfl, ?_⟩) hHeld ?_
  rotate_left
  · (intro w hSw; obtain ⟨s0, s1⟩ := hSw; go_simp; try with_reducible rfl)
  simp only [Act.put, List.setIfInBounds_toArray, List.set_cons_zero, List.set_cons_succ]
  rw [← HT1.out]
  refine wpAnyH_ready (rs := [10]) (by kernel_rfl) (by simp) ?_
  refine AllReadyH.cons (i := 10) rfl (fun K hK => ?_) AllReadyH.nil
  go_simp
  refine (Mm.Put_at (Twd.out.mem.below (Below.refl _ wd).drew) Bn _ T1 rfl (by omega) hB2).mono ?_
  rintro e we ⟨rfl, hm, hg⟩
  have M1 := Lib.hid hm
  have R1 := Lib.hid ((Twd.out.ref.below (Below.refl _ wd).drew).other (Twd.out.mem.below (Below.refl _ wd).drew) hg)
  have hbe : Below w.heap.size w we := Twd.out.bel.trans ((Below.refl _ wd).drew.trans ⟨hg.os, hg.tape, hg.output, hg.size, fun k hk => hg.block k (by show k < wd.heap.size; omega) (fun e => by injection e with e; omega)⟩)
  have B1 := Lib.hid hbe
  have k1 : we.heap[w.heap.size]? = some (.cells (wv z) 34 (0, 0)) := (hg.block w.heap.size (by show w.heap.size < wd.heap.size; omega) (fun e => by injection e with e; omega)).trans K1.out
  have xa' := (cellOf k1 34).trans V34.out
  have xs' := (cellOf k1 36).trans V36.out
  have hzwe : w.heap.size + 1 ≤ we.heap.size := Nat.le_trans (show w.heap.size + 1 ≤ wd.heap.size by omega) hg.size
  go_wp2_with fail
  refine hK.out _ _ ⟨xa', xs'⟩ (fun hHeld => ?_)
  clear hK K
  try simp only [Act.put, List.setIfInBounds_toArray, List.set_cons_zero, List.set_cons_succ]
  refine wpAnyH_done (by kernel_rfl) ?_ _
  have K1' := Lib.hid k1
  clear hHeld hg k1 xa xs xa' xs' hzq K1 hm hbe Twd
  have K1 := K1'
  clear K1'
  have xa := (cellOf K1.out 34).trans V34.out
  have xs := (cellOf K1.out 36).trans V36.out
  have hzq : w.heap.size < we.heap.size := by omega
  go_wp2
  refine wp_region_held_drew (S := fun w' => w'.cell? ⟨w.heap.size, 34, none⟩ = some (.int .u32 Bn) ∧ w'.cell? ⟨w.heap.size, 36, none⟩ = some (.string z.T)) (by kernel_rfl) ⟨xa, xs⟩ (fun hHeld => ?_)
  refine rh_take (i := 0) (k := 45) (v := ?_) rfl rfl (by kernel_rfl) (by kernel_rfl) (by kernel_rfl) (fun _ _ _ h => h) (Or.inl ⟨by rfl, ?_⟩) hHeld ?_
  rotate_left
  · (intro w hSw; obtain ⟨s0, s1⟩ := hSw; go_simp; try with_reducible rfl)
  simp only [Act.put, List.setIfInBounds_toArray, List.set_cons_zero, List.set_cons_succ]
  refine rh_take (i := 1) (k := 46) (v := ?_) rfl rfl (by kernel_rfl) (by kernel_rfl) (by kernel_rfl) (fun _ _ _ h => h) (Or.inl ⟨by rfl, ?_⟩) hHeld ?_
  rotate_left
  · (intro w hSw; obtain ⟨s0, s1⟩ := hSw; go_simp; try with_reducible rfl)
  simp only [Act.put, List.setIfInBounds_toArray, List.set_cons_zero, List.set_cons_succ]
  refine rh_take (i := 2) (k := 47) (v := ?_) rfl rfl (by kernel_rfl) (by kernel_rfl) (by kernel_rfl) (fun _ _ _ h => h) (Or.inl ⟨by rfl, ?_⟩) hHeld ?_
  rotate_left
  · (intro w hSw; obtain ⟨s0, s1⟩ := hSw; go_simp; try with_reducible rfl)
  simp only [Act.put, List.setIfInBounds_toArray, List.set_cons_zero, List.set_cons_succ]
  refine rh_take (i := 3) (k := 48) (v := ?_) rfl rfl (by kernel_rfl) (by kernel_rfl) (by kernel_rfl) (fun _ _ _ h => h) (Or.inl ⟨by rfl, ?_⟩) hHeld ?_
  rotate_left
  · (intro w hSw; obtain ⟨s0, s1⟩ := hSw; go_simp; try with_reducible rfl)
  simp only [Act.put, List.setIfInBounds_toArray, List.set_cons_zero, List.set_cons_succ]
  refine rh_take (i := 4) (k := 49) (v := ?_) rfl rfl (by kernel_rfl) (by kernel_rfl) (by kernel_rfl) (fun _ _ _ h => h) (Or.inl ⟨by rfl, ?_⟩) hHeld ?_
  rotate_left
  · (intro w hSw; obtain ⟨s0, s1⟩ := hSw; go_simp; try with_reducible rfl)
  simp only [Act.put, List.setIfInBounds_toArray, List.set_cons_zero, List.set_cons_succ]
  refine rh_take (i := 5) (k := 50) (v := ?_) rfl rfl (by kernel_rfl) (by kernel_rfl) (by kernel_rfl) (fun _ _ _ h => h) (Or.inl ⟨by rfl, ?_⟩) hHeld ?_
  rotate_left
  · (intro w hSw; obtain ⟨s0, s1⟩ := hSw; go_simp; try with_reducible rfl)
  simp only [Act.put, List.setIfInBounds_toArray, List.set_cons_zero, List.set_cons_succ]
  refine rh_take (i := 6) (k := 51) (v := ?_) rfl rfl (by kernel_rfl) (by kernel_rfl) (by kernel_rfl) (fun _ _ _ h => h) (Or.inl ⟨by rfl, ?_⟩) hHeld ?_
  rotate_left
  · (intro w hSw; obtain ⟨s0, s1⟩ := hSw; go_simp; try with_reducible rfl)
  simp only [Act.put, List.setIfInBounds_toArray, List.set_cons_zero, List.set_cons_succ]
  refine rh_take (i := 7) (k := 52) (v := ?_) rfl rfl (by kernel_rfl) (by kernel_rfl) (by kernel_rfl) (fun _ _ _ h => h) (Or.inl ⟨by rfl, ?_⟩) hHeld ?_
  rotate_left
  · (intro w hSw; obtain ⟨s0, s1⟩ := hSw; go_simp; try with_reducible rfl)
  simp only [Act.put, List.setIfInBounds_toArray, List.set_cons_zero, List.set_cons_succ]
  refine rh_take (i := 8) (k := 53) (v := ?_) rfl rfl (by kernel_rfl) (by kernel_rfl) (by kernel_rfl) (fun _ _ _ h => h) (Or.inl ⟨by rfl, ?_⟩) hHeld ?_
  rotate_left
  · (intro w hSw; obtain ⟨s0, s1⟩ := hSw; go_simp; try with_reducible rfl)
  simp only [Act.put, List.setIfInBounds_toArray, List.set_cons_zero, List.set_cons_succ]
  refine rh_take (i := 9) (k := 54) (v := ?_) rfl rfl (by kernel_rfl) (by kernel_rfl) (by kernel_rfl) (fun _ _ _ h => h) (Or.inl ⟨by rfl, ?_⟩) hHeld ?_
  rotate_left
  · (intro w hSw; obtain ⟨s0, s1⟩ := hSw; go_simp; try with_reducible rfl)
  simp only [Act.put, List.setIfInBounds_toArray, List.set_cons_zero, List.set_cons_succ]
  rw [← HT1.out]
  refine wpAnyH_ready (rs := [10]) (by kernel_rfl) (by simp) ?_
  refine AllReadyH.cons (i := 10) rfl (fun K hK => ?_) AllReadyH.nil
  go_simp
  refine (Mm.rPut_calls q _ _ _ Bn T1 _ (R1.out.below (Below.refl _ we).drew) (by omega) hB2).mono ?_
  rintro e wf ⟨rfl, hrr, hg⟩
  obtain ⟨lwf, hr⟩ := hrr
  have Twf := Aside0.mk (⟨(M1.out.below (Below.refl _ we).drew).byRef (R1.out.below (Below.refl _ we).drew) hg, hr, by omega, by omega, B1.out.trans ((Below.refl _ we).drew.trans ⟨hg.os, hg.tape, hg.output, hg.size, fun k hk => hg.block k (by show k < we.heap.size; omega) (fun e => by injection e with e; omega)⟩)⟩ : Mm.Two w wf p bl q _ _ lwf)
  have k1 : wf.heap[w.heap.size]? = some (.cells (wv z) 34 (0, 0)) := (hg.block w.heap.size (by show w.heap.size < we.heap.size; omega) (fun e => by injection e with e; omega)).trans K1.out
  have xa' := (cellOf k1 34).trans V34.out
  have xs' := (cellOf k1 36).trans V36.out
  have hzwf : w.heap.size + 1 ≤ wf.heap.size := Nat.le_trans (show w.heap.size + 1 ≤ we.heap.size by omega) hg.size
  go_wp2_with fail
  refine hK.out _ _ ⟨xa', xs'⟩ (fun hHeld => ?_)
  clear hK K
  try simp only [Act.put, List.setIfInBounds_toArray, List.set_cons_zero, List.set_cons_succ]
  refine wpAnyH_done (by kernel_rfl) ?_ _
  have K1' := Lib.hid k1
  clear hHeld hg k1 xa xs xa' xs' hzq K1 hr M1 R1 B1
  have K1 := K1'
  clear K1'
  go_wp2
  go_ret2
  exact ⟨p, bl, q, _, _, lwf, rfl, by omega, Twf.out⟩
end Go.Proofs.Ytononmcodecmaaa.Cp
end

section
/- Layer 4: the machine (part KV). -/
namespace Go.Proofs.Ytononmcodecmaaa.Cp
open Go.RowKit Go.Maps Go.Proofs Go.Proofs.YtononmcodecmaaaW Go.Proofs.YtononmcodecmaaaW.PrintWords
set_option maxRecDepth 100000
set_option linter.unusedVariables false
set_option linter.unusedSimpArgs false
attribute [local go_sem] cv_set cv_at cv_size
/-! ## How a step ends; how many calls -/
theorem accessv_end (c : List Int) (f : Nat → Nat) (op rd a b m : Int) : (accessv c f op rd a b m).2.2 = 0 ∨ (accessv c f op rd a b m).2.2 = 5 := by
  unfold accessv
  split
  · exact Or.inr rfl
  split
  · exact Or.inl rfl
  · exact Or.inl rfl
theorem jumpv_end (c : List Int) (f : Nat → Nat) (op rd a b m : Int) : 0 ≤ (jumpv c f op rd a b m).2.2 ∧ (jumpv c f op rd a b m).2.2 ≤ 5 := by
  unfold jumpv
  split
  · simp
  split
  · simp
  split
  · simp
  split
  · simp
  split
  · simp
  · rcases accessv_end c f op rd a b m with h | h <;> omega
theorem stepw_end (c : List Int) (f : Nat → Nat) (z : Int × Int × Int × Int × Int × Int) : 0 ≤ (stepw c f z).2.2 ∧ (stepw c f z).2.2 ≤ 5 := by
  unfold stepw
  split
  · simp
  split
  · simp
  · exact jumpv_end _ _ _ _ _ _ _
theorem stepv_end (c : List Int) (f : Nat → Nat) : 0 ≤ (stepv c f).2.2 ∧ (stepv c f).2.2 ≤ 5 := by
  by_cases h : reg (c.set 0 0) 32 % 4 = 0
  · rw [stepv_w c f h]
    generalize decT (Mm.ld f (reg (c.set 0 0) 32).toNat 4) = z
    exact stepw_end _ _ _
  · rw [stepv_m c f h]
    simp
theorem runv_facts : ∀ (k : Nat) (c : List Int) (f : Nat → Nat) (ans : List Int),
    (runv k c f ans).2.2.1.length ≤ (runv k c f ans).2.2.2.2 ∧ (runv k c f ans).2.2.1.length ≤ ans.length + 1 ∧ ((runv k c f ans).2.2.2.1 = 1 ↔ (runv k c f ans).2.2.1.length = ans.length + 1) ∧ ((runv k c f ans).2.2.2.1 = 6 → (runv k c f ans).2.2.2.2 = k) ∧ (runv k c f ans).2.2.2.2 ≤ k
  | 0, c, f, ans => by simp [runv]
  | k + 1, c, f, ans => by
    have he := stepv_end c f
    obtain ⟨z, hz⟩ : ∃ z, stepv c f = z := ⟨_, rfl⟩
    obtain ⟨d, g, e⟩ := z
    rw [hz] at he
    simp only at he
    by_cases h0 : e = 0
    · subst h0
      rw [run_on k c f ans d g hz]
      have ih := runv_facts k d g ans
      generalize runv k d g ans = T at *
      simp only [gl, List.nil_append]
      omega
    by_cases h1 : e = 1
    · subst h1
      cases ans with
      | nil =>
        rw [run_last k c f d g hz]
        simp
      | cons a rest =>
        rw [run_call k c f a rest d g hz]
        have ih := runv_facts k (d.set 10 a) g rest
        generalize runv k (d.set 10 a) g rest = T at *
        simp only [gl, List.cons_append, List.nil_append, List.length_cons]
        omega
    · rw [run_stop k c f ans d g e hz h0 h1]
      simp
      omega
end Go.Proofs.Ytononmcodecmaaa.Cp
end

section
/- Layer 4: the machine (part KW). -/
namespace Go.Proofs.Ytononmcodecmaaa.Cp
open Go.RowKit Go.Maps Go.Proofs Go.Proofs.YtononmcodecmaaaW Go.Proofs.YtononmcodecmaaaW.PrintWords
set_option maxRecDepth 100000
set_option linter.unusedVariables false
set_option linter.unusedSimpArgs false
attribute [local go_sem] cv_set cv_at cv_size
/-! ## Reading a world's parts -/
theorem wv_size (z : Wd) (hl : z.c.length = 33) : (wv z).size = 39 := by simp [wv, hl]
theorem infoW : (Try.prog.info? 34).map (·.size) = some 39 := by kernel_rfl
theorem ldW {ops : Array Oper} {rest : List Oper} {o : Oper} {a : Act} {w : World} {Q : Exit → Act → World → Prop} (hgd : o.guard = none) (x : Operand) (ho : o.op = .load 34 x)
    (g : Nat) (hx : a.eval x = .pointer (some ⟨g, 0, none⟩)) (z : Wd) (fr : Nat × Nat) (hg : w.heap[g]? = some (.cells (wv z) 34 fr)) (hc : z.c.length = 33)
    (h : wpList Try.prog ops Q rest (a.put o.dst (.agg (wv z))) w) : wpList Try.prog ops Q (o :: rest) a w :=
  wpList_load_row hgd _ x ho g hx _ _ fr _ hg Try.underlying34 rfl (infoW.trans (by rw [wv_size z hc])) h
theorem loadSub (w : World) (g : Nat) (c : List Int) (hcell : ∀ j, j < 33 → w.cell? ⟨g, j, none⟩ = some (.int .u32 (reg c j))) (hc : c.length = 33) : (loadVar 25 ⟨g, 0, none⟩).run Try.prog w = .ok (.agg (cv c)) w := by
  have hl : (loadCells ⟨g, 0, none⟩ (cv c).toList.length).run Try.prog w = .ok (cv c).toList.toArray w :=
    run_loadCells_list (P := Try.prog) w ⟨g, 0, none⟩ (cv c).toList (fun j v hv => by
      have hadd : (⟨g, 0, none⟩ : Addr).add j = ⟨g, j, none⟩ := by unfold Addr.add; split <;> simp_all
      have hj : j < 33 := by
        have := (List.getElem?_eq_some_iff.1 hv).1
        rw [Array.length_toList, cv_size] at this
        omega
      rw [hadd, hcell j hj]
      rw [Array.getElem?_toList, cv_get c j (by omega)] at hv
      exact hv)
  have hi := infoC
  cases hq : Try.prog.info? 25 with
  | none => simp [hq] at hi
  | some i =>
    have hs : i.size = 33 := by simpa [hq] using hi
    have hagg : (isAgg 25).run Try.prog w = .ok true w := by
      unfold isAgg
      rw [Sem.run_bind, run_underlying Try.underlying25 w]
      simp
    simp only [Array.length_toList, Array.toArray_toList, cv_size, hc] at hl
    simp [loadVar, Sem.run_bind, hagg, sizeOf, typeInfo, hq, hs, hl]
theorem ldS {ops : Array Oper} {rest : List Oper} {o : Oper} {a : Act} {w : World} {Q : Exit → Act → World → Prop} (hgd : o.guard = none) (x : Operand) (ho : o.op = .load 25 x)
    (g : Nat) (hx : a.eval x = .pointer (some ⟨g, 0, none⟩)) (z : Wd) (t : TypeId) (fr : Nat × Nat) (hg : w.heap[g]? = some (.cells (wv z) t fr)) (hc : z.c.length = 33)
    (h : wpList Try.prog ops Q rest (a.put o.dst (.agg (cv z.c))) w) : wpList Try.prog ops Q (o :: rest) a w := by
  refine wpList_plain hgd fun K hK => ?_
  have hld := loadSub w g z.c (fun j hj => by rw [cell_of_row w g j _ t fr hg, wv_c z hc j hj]) hc
  unfold Oper.wp execOp
  simp only [ho, hx, Instr.loadAt, Instr.sureAddr, Sem.run_bind, Sem.run_pure, Result.andThen_ok, hld]
  exact hK _ _ h
theorem AnsAt.below {w w' : World} {A : Option Addr} {ans : List Int} (h : AnsAt w A ans) (hB : Below w.heap.size w w') : AnsAt w' A ans := by
  intro i hi
  obtain ⟨ad, e, hb, hc⟩ := h i hi
  refine ⟨ad, e, Nat.lt_of_lt_of_le hb hB.size, ?_⟩
  exact (World.cell?_of_block (by rw [add_block]; exact hB.block ad.block hb)).trans hc
/-- A store of so many bytes leaves bytes. -/
theorem putn_lt (f : Nat → Nat) (a : Nat) (g : Nat → Nat) (hf : ∀ x, f x < 256) (hg : ∀ j, g j < 256) : ∀ k x, Mm.putn f a g k x < 256
  | 0, x => hf x
  | k + 1, x => by
    unfold Mm.putn Mm.upd
    split
    · exact hg k
    · exact putn_lt f a g hf hg k x
theorem accessv_lt (c : List Int) (f : Nat → Nat) (hf : ∀ x, f x < 256) (op rd a b m : Int) : ∀ x, (accessv c f op rd a b m).2.1 x < 256 := by
  unfold accessv
  split
  · exact hf
  split
  · exact putn_lt f _ _ hf (fun j => Nat.mod_lt _ (by omega)) _
  · exact hf
theorem jumpv_lt (c : List Int) (f : Nat → Nat) (hf : ∀ x, f x < 256) (op rd a b m : Int) : ∀ x, (jumpv c f op rd a b m).2.1 x < 256 := by
  unfold jumpv
  split
  · exact hf
  split
  · exact hf
  split
  · exact hf
  split
  · exact hf
  split
  · exact hf
  · exact accessv_lt c f hf _ _ _ _ _
theorem stepw_lt (c : List Int) (f : Nat → Nat) (hf : ∀ x, f x < 256) (z : Int × Int × Int × Int × Int × Int) : ∀ x, (stepw c f z).2.1 x < 256 := by
  unfold stepw
  split
  · exact hf
  split
  · exact hf
  · exact jumpv_lt c f hf _ _ _ _ _
theorem stepv_lt (c : List Int) (f : Nat → Nat) (hf : ∀ x, f x < 256) : ∀ x, (stepv c f).2.1 x < 256 := by
  by_cases h : reg (c.set 0 0) 32 % 4 = 0
  · rw [stepv_w c f h]
    generalize decT (Mm.ld f (reg (c.set 0 0) 32).toNat 4) = z
    exact stepw_lt _ _ hf _
  · rw [stepv_m c f h]
    exact hf
theorem runv_wc : ∀ (k : Nat) (c : List Int) (f : Nat → Nat) (ans : List Int) (_ : ∀ x, f x < 256) (_ : ∀ i, 0 ≤ ans.getD i 0 ∧ ans.getD i 0 < 4294967296) (_ : Wc c), Wc (runv k c f ans).1
  | 0, c, f, ans, _, _, hc => by simp only [runv]; exact hc
  | k + 1, c, f, ans, hf, ha, hc => by
    have hw := hc.step f hf
    have hl := stepv_lt c f hf
    obtain ⟨z, hz⟩ : ∃ z, stepv c f = z := ⟨_, rfl⟩
    obtain ⟨d, g, e⟩ := z
    rw [hz] at hw hl
    simp only at hw hl
    by_cases h0 : e = 0
    · subst h0
      rw [run_on k c f ans d g hz]
      exact runv_wc k d g ans hl ha hw
    by_cases h1 : e = 1
    · subst h1
      cases ans with
      | nil => rw [run_last k c f d g hz]; exact hw
      | cons a rest =>
        rw [run_call k c f a rest d g hz]
        exact runv_wc k (d.set 10 a) g rest hl (fun i => ha (i + 1)) (hw.set 10 a (ha 0))
    · rw [run_stop k c f ans d g e hz h0 h1]
      exact hw
theorem runv_len (k : Nat) (c : List Int) (f : Nat → Nat) (ans : List Int) (hf : ∀ x, f x < 256) (ha : ∀ i, 0 ≤ ans.getD i 0 ∧ ans.getD i 0 < 4294967296) (hc : Wc c) : (runv k c f ans).1.length = 33 := (runv_wc k c f ans hf ha hc).len
set_option maxHeartbeats 2000000 in
theorem row_CpuCalls (z : Wd) (w : World) (hz : WdOk w z) : Calls Try.prog 4 #[.agg (wv z)] w fun e w' => e = .returned (.bool true) ∧ Below w.heap.size w w' := by
  have hl := hz.wc.len
  have HZ := Lib.hid hz
  have hb0 : Below w.heap.size w (w.alloc (.cells (wv z) 34)) := (Below.refl _ w).alloc (Nat.le_refl _) _
  have HLD := Lib.hid (Laid_calls z (w.alloc (.cells (wv z) 34)) ⟨hz.wc, hz.hA, hz.hB, hz.hS, hz.hT, hz.ans.below hb0, hz.rng, hz.len, hz.fuel⟩)
  have han := hz.len
  obtain ⟨v33, v34, v35, v36, v37, v38⟩ := wv_at z hl
  have V37 := Lib.hid v37
  have V38 := Lib.hid v38
  clear v33 v34 v35 v36 v37 v38 hz hb0
  go_enter Try.func4, Try.ntmps4
  go_wp2_with (first | refine ldW rfl _ rfl _ rfl z (0, 0) (heap_alloc_new _ _) hl ?_ | (go_at_call 12; refine hold_ ?_))
  intro _
  refine HLD.out.mono ?_
  rintro e wa ⟨p, bl, q, n, f, l, rfl, hn, T0⟩
  have k0 : wa.heap[w.heap.size]? = some (.cells (wv z) 34 (0, 0)) := (T0.bel.block _ (by simp)).trans (heap_alloc_new _ _)
  have hB : Below w.heap.size w wa := ((Below.refl _ w).alloc (Nat.le_refl _) _).trans (T0.bel.mono (by simp))
  have hblw : w.heap.size < bl := by have := T0.hb; simp at this; omega
  have hza : w.heap.size + 1 ≤ wa.heap.size := by have := T0.bel.size; simpa using this
  have HM := Lib.hid T0.mem
  have K0 := Lib.hid k0
  have HB := Lib.hid hB
  clear T0 k0 hB HLD
  have x37 := (cellOf K0.out 37).trans V37.out
  have x38 := (cellOf K0.out 38).trans V38.out
  have hz0 : w.heap.size < wa.heap.size := by omega
  go_wp2_with (first | refine ldS rfl _ rfl _ rfl z _ (0, 0) K0.out hl ?_ | (go_at_call 13; refine hold_ ?_))
  intro _
  obtain ⟨T, hT⟩ : ∃ T, T = runv (min z.fuel 60).toNat (z.c.set 0 0) f z.ans := ⟨_, rfl⟩
  have hfa := runv_facts (min z.fuel 60).toNat (z.c.set 0 0) f z.ans
  rw [← hT] at hfa
  refine (Run_calls z.c HZ.out.wc p bl n f wa HM.out (by omega) z.an z.ac z.ans (HZ.out.ans.below HB.out) HZ.out.rng (Nat.lt_of_le_of_lt han (Nat.lt_trans reachBytes_lt (by decide))) (min z.fuel 60) (by omega) T hT).mono ?_
  rintro e wb ⟨v, rfl, hown, ⟨n', hn', hm⟩, hg⟩
  obtain ⟨o, cp, hv, _⟩ := own_optK hown
  subst hv
  have hld : T.1.length = 33 := by
    have := runv_len (min z.fuel 60).toNat (z.c.set 0 0) f z.ans HM.out.map.2.1 HZ.out.rng (HZ.out.wc.set 0 0 (by omega))
    rw [← hT] at this
    exact this
  obtain ⟨hf1, hf2, hf3, hf4, _⟩ := hfa
  obtain ⟨c2, f2, cs, en, st⟩ := T
  simp only at hown hm hld hf1 hf2 hf3 hf4
  have k0 : wb.heap[w.heap.size]? = some (.cells (wv z) 34 (0, 0)) := (hg.block _ (by omega) (fun e => by injection e with e; omega)).trans K0.out
  have hB : Below w.heap.size w wb := HB.out.trans ⟨hg.os, hg.tape, hg.output, hg.size, fun k hk => hg.block k (by omega) (fun e => by injection e with e; omega)⟩
  have x37' := (cellOf k0 37).trans V37.out
  have x38' := (cellOf k0 38).trans V38.out
  have hzb : w.heap.size + 1 ≤ wb.heap.size := Nat.le_trans hza hg.size
  have hzb0 : w.heap.size < wb.heap.size := by omega
  have HBb := Lib.hid hB
  have han2 : z.ans.length < 140737488355328 := Nat.lt_of_le_of_lt han reachBytes_lt
  have i1 : ¬ (cs.length : Int) > (st : Int) := by omega
  have i2 : ¬ (cs.length : Int) > (z.ans.length : Int) + 1 := by omega
  have i1n : cs.length ≤ st := hf1
  have i2n : cs.length ≤ z.ans.length + 1 := hf2
  have i1m : ¬ st < cs.length := by omega
  have i2m : ¬ z.ans.length + 1 < cs.length := by omega
  have i2k : ¬ (z.ans.length : Int) + 1 < (cs.length : Int) := by omega
  have wm : IntKind.i64.wrap ((z.ans.length : Int) + 1) = (z.ans.length : Int) + 1 := by rw [IntKind.wrap_i64]; omega
  have i3 : (en == 1) = ((cs.length : Int) == (z.ans.length : Int) + 1) := by
    by_cases h1 : en = 1
    · rw [beq_iff_eq.2 h1, beq_iff_eq.2 (by have := hf3.1 h1; omega)]
    · rw [beq_eq_false_iff_ne.2 h1, beq_eq_false_iff_ne.2 (fun e => h1 (hf3.2 (by omega)))]
  have i4 : en = 6 → (st : Int) = max 0 (min z.fuel 60) := fun h => by have := hf4 h; omega
  have HI4 := Lib.hid i4
  clear hown hm hg k0 hB x37 x38 hz0 HM K0 HB hT hf1 hf2 hf3 hf4 HZ hn' hzb han i4
  have HF := Lib.hid fixed_calls
  have hBs : w.heap.size ≤ wb.heap.size := by omega
  by_cases h6 : en = 6
  · subst h6
    have hst := HI4.out rfl
    clear HI4
    go_wp2_with (first | refine alC rfl rfl ?_ | refine stN rfl _ _ rfl _ rfl rfl zs hld rfl ?_ | (go_at_call 11; refine hold_ ?_))
    intro _
    refine (HF.out _).mono ?_
    rintro e wd ⟨rfl, hb⟩
    have HBd := Lib.hid (belowS hb (HBb.out.alloc (by omega) (.cells (cv c2) 25)))
    clear hb HBb
    go_wp2
    go_ret
    exact ⟨rfl, HBd.out⟩
  · have b6 : (en != 6) = true := bne_iff_ne.mpr h6
    clear HI4 h6
    go_wp2_with (first | refine alC rfl rfl ?_ | refine stN rfl _ _ rfl _ rfl rfl zs hld rfl ?_ | (go_at_call 11; refine hold_ ?_))
    intro _
    refine (HF.out _).mono ?_
    rintro e wd ⟨rfl, hb⟩
    have HBd := Lib.hid (belowS hb (HBb.out.alloc (by omega) (.cells (cv c2) 25)))
    clear hb HBb
    go_wp2
    go_ret
    exact ⟨rfl, HBd.out⟩
end Go.Proofs.Ytononmcodecmaaa.Cp
end
