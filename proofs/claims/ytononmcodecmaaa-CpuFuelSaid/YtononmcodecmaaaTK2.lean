import Derived.Test.YtononmcodecmaaaTKT
import Derived.Test.YtononmcodecmaaaTMO
import Derived.Test.YtononmcodecmaaaTOP
import Derived.OpenShut
import Derived.WideShapes
import Derived.ProofKit
import Derived.ChangeKeysEq
import Derived.BigFrame
import Derived.Deep.WholeRow
import Derived.Test.YtononmcodecmaaaTLA
import Derived.Test.YtononmcodecmaaaTQx
import Derived.WalkKit
import Derived.KernelRfl
import Derived.Below
import Derived.Outline
import Derived.LoopTactic
import Derived.Laws.BitsLemmas
import Derived.Laws.BitsAllLaws
import Derived.Deep.LoopGhost
import Derived.Lib.Hide
import Derived.Deep.QuietTactic
import Derived.BigQuiet
import Derived.Deep.Draws
import Derived.Laws.StructEq
import Derived.Deep.Slices
import Derived.Deep.Fields
import Derived.ChangeSame
import Derived.Deep.CutBlock
import Derived.Deep.DeepCutAuto
import Derived.Deep.RegionHeld3
import Derived.StillTailTactics
import Derived.WalkSmall
import Derived.OwnWalk
import Derived.Laws.OwnMore
import Derived.Laws.BytesArg
import Derived.Laws.MakeOwn
import Derived.Laws.Tables
import Derived.Laws.Rows
import Derived.Laws.World
import Derived.Test.YtononmcodecmaaaTKR
import Derived.Test.YtononmcodecmaaaTLB
section
/- Layer 4: the machine (part KU). -/
namespace Go.Proofs.Ytononmcodecmaaa.Cp
open Go.RowKit Go.Maps Go.Proofs Go.Proofs.YtononmcodecmaaaW Go.Proofs.YtononmcodecmaaaW.PrintWords
set_option maxRecDepth 100000
set_option linter.unusedVariables false
set_option linter.unusedSimpArgs false
attribute [local go_sem] cv_set cv_at cv_size
theorem wv_at (z : Wd) (hl : z.c.length = 33) : (wv z)[33]? = some (.int .u32 z.A) ∧ (wv z)[34]? = some (.int .u32 z.B) ∧ (wv z)[35]? = some (.string z.S) ∧ (wv z)[36]? = some (.string z.T) ∧ (wv z)[37]? = some (.slice z.an z.ans.length z.ac) ∧ (wv z)[38]? = some (.int .i64 z.fuel) := by
 simp [wv, List.getElem?_append, hl]
theorem wv_c (z : Wd) (hl : z.c.length = 33) (i : Nat) (hi : i < 33) : (wv z)[i]? = some (.int .u32 (reg z.c i)) := by
 simp [wv, List.getElem?_append, hl, hi, reg, List.getD_eq_getElem?_getD]
set_option maxHeartbeats 2000000 in
theorem Laid_calls (z : Wd) (w : World) (hz : WdOk w z) : Calls Try.prog 12 #[.agg (wv z)] w fun e w' => ∃ p b q n f l, e = .returned (.tuple #[.pointer (some ⟨p, 0, none⟩), .pointer (some ⟨q, 0, none⟩)]) ∧ n ≤ 160 ∧ Mm.Two w w' p b q n f l := by
 have hl := hz.wc.len
 have HZ := Lib.hid hz
 go_enter Try.func12, Try.ntmps12
 go_wp2_with (go_at_call 28; refine hold_ ?_)
 intro _
 refine (Mm.New_calls _).mono ?_
 rintro e wa ⟨rfl, hm, hg⟩
 have k0 : wa.heap[w.heap.size]? = some (.cells (wv z) 34 (0, 0)) := (hg.block _ (by simp) (fun e => by cases e)).trans (heap_alloc_new _ _)
 have hB : Below w.heap.size w wa := ((Below.refl _ w).alloc (Nat.le_refl _) _).trans ⟨hg.os, hg.tape, hg.output, hg.size, fun k hk => hg.block k (by simp; omega) (fun e => by cases e)⟩
 have hza : w.heap.size + 1 ≤ wa.heap.size := by have := hg.size; simpa using this
 obtain ⟨bl, hbl⟩ : ∃ bl, bl = (w.alloc (.cells (wv z) 34)).heap.size := ⟨_, rfl⟩
 obtain ⟨p, hp⟩ : ∃ p, p = (w.alloc (.cells (wv z) 34)).heap.size + 1 := ⟨_, rfl⟩
 rw [← hp, ← hbl] at hm
 rw [← hp]
 have hblw : w.heap.size < bl := by rw [hbl]; simp
 have hpw : w.heap.size ≤ p := by rw [hp]; simp; omega
 clear hg hp hbl
 have HM := Lib.hid hm
 have K0 := Lib.hid k0
 have HB := Lib.hid hB
 clear hm k0 hB
 go_wp2_with (go_at_call 29; refine hold_ ?_)
 intro _
 refine (Mm.rNew_calls wa).mono ?_
 rintro e wb ⟨rfl, hr, hg⟩
 have hb0 : Below wa.heap.size wa wb := ⟨hg.os, hg.tape, hg.output, hg.size, fun k hk => hg.block k hk (fun e => by cases e)⟩
 obtain ⟨q, hq⟩ : ∃ q, q = wa.heap.size := ⟨_, rfl⟩
 have T0 := Aside0.mk (⟨HM.out.below hb0, hr, by omega, by omega, belowS hb0 HB.out⟩ : Mm.Two w wb p bl wa.heap.size 0 (fun _ => 0) [])
 have K1 := Lib.hid ((hb0.block w.heap.size (by omega)).trans K0.out)
 have hzb : w.heap.size + 1 ≤ wb.heap.size := Nat.le_trans hza hb0.size
 rw [← hq] at T0 ⊢
 have hqw : w.heap.size < q := by omega
 clear hr hg hb0 HM K0 HB hza hq
 obtain ⟨v33, v34, v35, v36, v37, v38⟩ := wv_at z hl
 obtain ⟨An, hAn⟩ : ∃ An : Nat, z.A = (An : Int) := ⟨z.A.toNat, by have := hz.hA; omega⟩
 have hA2 : An < 4294967296 := by have := hz.hA; omega
 obtain ⟨Bn, hBn⟩ : ∃ Bn : Nat, z.B = (Bn : Int) := ⟨z.B.toNat, by have := hz.hB; omega⟩
 have hB2 : Bn < 4294967296 := by have := hz.hB; omega
 have hcS := Mm.cut_le z.S 120
 have hcT := Mm.cut_le z.T 40
 obtain ⟨S1, hS1⟩ : ∃ S1, S1 = z.S.extract 0 (min (z.S.size : Int) 120).toNat := ⟨_, rfl⟩
 obtain ⟨T1, hT1⟩ : ∃ T1, T1 = z.T.extract 0 (min (z.T.size : Int) 40).toNat := ⟨_, rfl⟩
 have hcS : S1.size ≤ 120 := by rw [hS1]; exact hcS
 have hcT : T1.size ≤ 40 := by rw [hT1]; exact hcT
 have HS1 := Lib.hid hS1
 have HT1 := Lib.hid hT1
 clear hS1 hT1
 have mS : 0 ≤ min (z.S.size : Int) 120 ∧ min (z.S.size : Int) 120 ≤ (z.S.size : Int) := by omega
 have mT : 0 ≤ min (z.T.size : Int) 40 ∧ min (z.T.size : Int) 40 ≤ (z.T.size : Int) := by omega
 have V33 := Lib.hid v33
 have V34 := Lib.hid v34
 have V35 := Lib.hid v35
 have V36 := Lib.hid v36
 clear v33 v34 v35 v36 v37 v38 hz
 rw [hAn] at V33
 rw [hBn] at V34
 clear hAn hBn
 have xa := (cellOf K1.out 33).trans V33.out
 have xs := (cellOf K1.out 35).trans V35.out
 have hzq : w.heap.size < wb.heap.size := by omega
 go_wp2
 refine wp_region_held_drew (S := fun w' => w'.cell? ⟨w.heap.size, 33, none⟩ = some (.int .u32 An) ∧ w'.cell? ⟨w.heap.size, 35, none⟩ = some (.string z.S)) (by kernel_rfl) ⟨xa, xs⟩ (fun hHeld => ?_)
 refine rh_take (i := 0) (k := 12) (v := ?_) rfl rfl (by kernel_rfl) (by kernel_rfl) (by kernel_rfl) (fun _ _ _ h => h) (Or.inl ⟨by rfl, ?_⟩) hHeld ?_
 rotate_left
 ·(intro w hSw; obtain ⟨s0, s1⟩ := hSw; go_simp; try with_reducible rfl)
 simp only [Act.put, List.setIfInBounds_toArray, List.set_cons_zero, List.set_cons_succ]
 refine rh_take (i := 1) (k := 13) (v := ?_) rfl rfl (by kernel_rfl) (by kernel_rfl) (by kernel_rfl) (fun _ _ _ h => h) (Or.inl ⟨by rfl, ?_⟩) hHeld ?_
 rotate_left
 ·(intro w hSw; obtain ⟨s0, s1⟩ := hSw; go_simp; try with_reducible rfl)
 simp only [Act.put, List.setIfInBounds_toArray, List.set_cons_zero, List.set_cons_succ]
 refine rh_take (i := 2) (k := 14) (v := ?_) rfl rfl (by kernel_rfl) (by kernel_rfl) (by kernel_rfl) (fun _ _ _ h => h) (Or.inl ⟨by rfl, ?_⟩) hHeld ?_
 rotate_left
 ·(intro w hSw; obtain ⟨s0, s1⟩ := hSw; go_simp; try with_reducible rfl)
 simp only [Act.put, List.setIfInBounds_toArray, List.set_cons_zero, List.set_cons_succ]
 refine rh_take (i := 3) (k := 15) (v := ?_) rfl rfl (by kernel_rfl) (by kernel_rfl) (by kernel_rfl) (fun _ _ _ h => h) (Or.inl ⟨by rfl, ?_⟩) hHeld ?_
 rotate_left
 ·(intro w hSw; obtain ⟨s0, s1⟩ := hSw; go_simp; try with_reducible rfl)
 simp only [Act.put, List.setIfInBounds_toArray, List.set_cons_zero, List.set_cons_succ]
 refine rh_take (i := 4) (k := 16) (v := ?_) rfl rfl (by kernel_rfl) (by kernel_rfl) (by kernel_rfl) (fun _ _ _ h => h) (Or.inl ⟨by rfl, ?_⟩) hHeld ?_
 rotate_left
 ·(intro w hSw; obtain ⟨s0, s1⟩ := hSw; go_simp; try with_reducible rfl)
 simp only [Act.put, List.setIfInBounds_toArray, List.set_cons_zero, List.set_cons_succ]
 refine rh_take (i := 5) (k := 17) (v := ?_) rfl rfl (by kernel_rfl) (by kernel_rfl) (by kernel_rfl) (fun _ _ _ h => h) (Or.inl ⟨by rfl, ?_⟩) hHeld ?_
 rotate_left
 ·(intro w hSw; obtain ⟨s0, s1⟩ := hSw; go_simp; try with_reducible rfl)
 simp only [Act.put, List.setIfInBounds_toArray, List.set_cons_zero, List.set_cons_succ]
 refine rh_take (i := 6) (k := 18) (v := ?_) rfl rfl (by kernel_rfl) (by kernel_rfl) (by kernel_rfl) (fun _ _ _ h => h) (Or.inl ⟨by rfl, ?_⟩) hHeld ?_
 rotate_left
 ·(intro w hSw; obtain ⟨s0, s1⟩ := hSw; go_simp; try with_reducible rfl)
 simp only [Act.put, List.setIfInBounds_toArray, List.set_cons_zero, List.set_cons_succ]
 refine rh_take (i := 7) (k := 19) (v := ?_) rfl rfl (by kernel_rfl) (by kernel_rfl) (by kernel_rfl) (fun _ _ _ h => h) (Or.inl ⟨by rfl, ?_⟩) hHeld ?_
 rotate_left
 ·(intro w hSw; obtain ⟨s0, s1⟩ := hSw; go_simp; try with_reducible rfl)
 simp only [Act.put, List.setIfInBounds_toArray, List.set_cons_zero, List.set_cons_succ]
 refine rh_take (i := 8) (k := 20) (v := ?_) rfl rfl (by kernel_rfl) (by kernel_rfl) (by kernel_rfl) (fun _ _ _ h => h) (Or.inl ⟨by rfl, ?_⟩) hHeld ?_
 rotate_left
 ·(intro w hSw; obtain ⟨s0, s1⟩ := hSw; go_simp; try with_reducible rfl)
 simp only [Act.put, List.setIfInBounds_toArray, List.set_cons_zero, List.set_cons_succ]
 refine rh_take (i := 9) (k := 21) (v := ?_) rfl rfl (by kernel_rfl) (by kernel_rfl) (by kernel_rfl) (fun _ _ _ h => h) (Or.inl ⟨by rfl, ?_⟩) hHeld ?_
 rotate_left
 ·(intro w hSw; obtain ⟨s0, s1⟩ := hSw; go_simp; try with_reducible rfl)
 simp only [Act.put, List.setIfInBounds_toArray, List.set_cons_zero, List.set_cons_succ]
 rw [← HS1.out]
 refine wpAnyH_ready (rs := [10]) (by kernel_rfl) (by simp) ?_
 refine AllReadyH.cons (i := 10) rfl (fun K hK => ?_) AllReadyH.nil
 go_simp
 refine (Mm.Put_at (T0.out.mem.below (Below.refl _ wb).drew) An _ S1 rfl (by omega) hA2).mono ?_
 rintro e wc ⟨rfl, hm, hg⟩
 have M1 := Lib.hid hm
 have R1 := Lib.hid ((T0.out.ref.below (Below.refl _ wb).drew).other (T0.out.mem.below (Below.refl _ wb).drew) hg)
 have hbe : Below w.heap.size w wc := T0.out.bel.trans ((Below.refl _ wb).drew.trans ⟨hg.os, hg.tape, hg.output, hg.size, fun k hk => hg.block k (by show k < wb.heap.size; omega) (fun e => by injection e with e; omega)⟩)
 have B1 := Lib.hid hbe
 have k1 : wc.heap[w.heap.size]? = some (.cells (wv z) 34 (0, 0)) := (hg.block w.heap.size (by show w.heap.size < wb.heap.size; omega) (fun e => by injection e with e; omega)).trans K1.out
 have xa' := (cellOf k1 33).trans V33.out
 have xs' := (cellOf k1 35).trans V35.out
 have hzwc : w.heap.size + 1 ≤ wc.heap.size := Nat.le_trans (show w.heap.size + 1 ≤ wb.heap.size by omega) hg.size
 go_wp2_with fail
 refine hK.out _ _ ⟨xa', xs'⟩ (fun hHeld => ?_)
 clear hK K
 try simp only [Act.put, List.setIfInBounds_toArray, List.set_cons_zero, List.set_cons_succ]
 refine wpAnyH_done (by kernel_rfl) ?_ _
 have K1' := Lib.hid k1
 clear hHeld hg k1 xa xs xa' xs' hzq K1 hm hbe T0
 have K1 := K1'
 clear K1'
 have xa := (cellOf K1.out 33).trans V33.out
 have xs := (cellOf K1.out 35).trans V35.out
 have hzq : w.heap.size < wc.heap.size := by omega
 go_wp2
 refine wp_region_held_drew (S := fun w' => w'.cell? ⟨w.heap.size, 33, none⟩ = some (.int .u32 An) ∧ w'.cell? ⟨w.heap.size, 35, none⟩ = some (.string z.S)) (by kernel_rfl) ⟨xa, xs⟩ (fun hHeld => ?_)
 refine rh_take (i := 0) (k := 23) (v := ?_) rfl rfl (by kernel_rfl) (by kernel_rfl) (by kernel_rfl) (fun _ _ _ h => h) (Or.inl ⟨by rfl, ?_⟩) hHeld ?_
 rotate_left
 ·(intro w hSw; obtain ⟨s0, s1⟩ := hSw; go_simp; try with_reducible rfl)
 simp only [Act.put, List.setIfInBounds_toArray, List.set_cons_zero, List.set_cons_succ]
 refine rh_take (i := 1) (k := 24) (v := ?_) rfl rfl (by kernel_rfl) (by kernel_rfl) (by kernel_rfl) (fun _ _ _ h => h) (Or.inl ⟨by rfl, ?_⟩) hHeld ?_
 rotate_left
 ·(intro w hSw; obtain ⟨s0, s1⟩ := hSw; go_simp; try with_reducible rfl)
 simp only [Act.put, List.setIfInBounds_toArray, List.set_cons_zero, List.set_cons_succ]
 refine rh_take (i := 2) (k := 25) (v := ?_) rfl rfl (by kernel_rfl) (by kernel_rfl) (by kernel_rfl) (fun _ _ _ h => h) (Or.inl ⟨by rfl, ?_⟩) hHeld ?_
 rotate_left
 ·(intro w hSw; obtain ⟨s0, s1⟩ := hSw; go_simp; try with_reducible rfl)
 simp only [Act.put, List.setIfInBounds_toArray, List.set_cons_zero, List.set_cons_succ]
 refine rh_take (i := 3) (k := 26) (v := ?_) rfl rfl (by kernel_rfl) (by kernel_rfl) (by kernel_rfl) (fun _ _ _ h => h) (Or.inl ⟨by rfl, ?_⟩) hHeld ?_
 rotate_left
 ·(intro w hSw; obtain ⟨s0, s1⟩ := hSw; go_simp; try with_reducible rfl)
 simp only [Act.put, List.setIfInBounds_toArray, List.set_cons_zero, List.set_cons_succ]
 refine rh_take (i := 4) (k := 27) (v := ?_) rfl rfl (by kernel_rfl) (by kernel_rfl) (by kernel_rfl) (fun _ _ _ h => h) (Or.inl ⟨by rfl, ?_⟩) hHeld ?_
 rotate_left
 ·(intro w hSw; obtain ⟨s0, s1⟩ := hSw; go_simp; try with_reducible rfl)
 simp only [Act.put, List.setIfInBounds_toArray, List.set_cons_zero, List.set_cons_succ]
 refine rh_take (i := 5) (k := 28) (v := ?_) rfl rfl (by kernel_rfl) (by kernel_rfl) (by kernel_rfl) (fun _ _ _ h => h) (Or.inl ⟨by rfl, ?_⟩) hHeld ?_
 rotate_left
 ·(intro w hSw; obtain ⟨s0, s1⟩ := hSw; go_simp; try with_reducible rfl)
 simp only [Act.put, List.setIfInBounds_toArray, List.set_cons_zero, List.set_cons_succ]
 refine rh_take (i := 6) (k := 29) (v := ?_) rfl rfl (by kernel_rfl) (by kernel_rfl) (by kernel_rfl) (fun _ _ _ h => h) (Or.inl ⟨by rfl, ?_⟩) hHeld ?_
 rotate_left
 ·(intro w hSw; obtain ⟨s0, s1⟩ := hSw; go_simp; try with_reducible rfl)
 simp only [Act.put, List.setIfInBounds_toArray, List.set_cons_zero, List.set_cons_succ]
 refine rh_take (i := 7) (k := 30) (v := ?_) rfl rfl (by kernel_rfl) (by kernel_rfl) (by kernel_rfl) (fun _ _ _ h => h) (Or.inl ⟨by rfl, ?_⟩) hHeld ?_
 rotate_left
 ·(intro w hSw; obtain ⟨s0, s1⟩ := hSw; go_simp; try with_reducible rfl)
 simp only [Act.put, List.setIfInBounds_toArray, List.set_cons_zero, List.set_cons_succ]
 refine rh_take (i := 8) (k := 31) (v := ?_) rfl rfl (by kernel_rfl) (by kernel_rfl) (by kernel_rfl) (fun _ _ _ h => h) (Or.inl ⟨by rfl, ?_⟩) hHeld ?_
 rotate_left
 ·(intro w hSw; obtain ⟨s0, s1⟩ := hSw; go_simp; try with_reducible rfl)
 simp only [Act.put, List.setIfInBounds_toArray, List.set_cons_zero, List.set_cons_succ]
 refine rh_take (i := 9) (k := 32) (v := ?_) rfl rfl (by kernel_rfl) (by kernel_rfl) (by kernel_rfl) (fun _ _ _ h => h) (Or.inl ⟨by rfl, ?_⟩) hHeld ?_
 rotate_left
 ·(intro w hSw; obtain ⟨s0, s1⟩ := hSw; go_simp; try with_reducible rfl)
 simp only [Act.put, List.setIfInBounds_toArray, List.set_cons_zero, List.set_cons_succ]
 rw [← HS1.out]
 refine wpAnyH_ready (rs := [10]) (by kernel_rfl) (by simp) ?_
 refine AllReadyH.cons (i := 10) rfl (fun K hK => ?_) AllReadyH.nil
 go_simp
 refine (Mm.rPut_calls q _ _ _ An S1 _ (R1.out.below (Below.refl _ wc).drew) (by omega) hA2).mono ?_
 rintro e wd ⟨rfl, hrr, hg⟩
 obtain ⟨lwd, hr⟩ := hrr
 have Twd := Aside0.mk (⟨(M1.out.below (Below.refl _ wc).drew).byRef (R1.out.below (Below.refl _ wc).drew) hg, hr, by omega, by omega, B1.out.trans ((Below.refl _ wc).drew.trans ⟨hg.os, hg.tape, hg.output, hg.size, fun k hk => hg.block k (by show k < wc.heap.size; omega) (fun e => by injection e with e; omega)⟩)⟩ : Mm.Two w wd p bl q _ _ lwd)
 have k1 : wd.heap[w.heap.size]? = some (.cells (wv z) 34 (0, 0)) := (hg.block w.heap.size (by show w.heap.size < wc.heap.size; omega) (fun e => by injection e with e; omega)).trans K1.out
 have xa' := (cellOf k1 33).trans V33.out
 have xs' := (cellOf k1 35).trans V35.out
 have hzwd : w.heap.size + 1 ≤ wd.heap.size := Nat.le_trans (show w.heap.size + 1 ≤ wc.heap.size by omega) hg.size
 go_wp2_with fail
 refine hK.out _ _ ⟨xa', xs'⟩ (fun hHeld => ?_)
 clear hK K
 try simp only [Act.put, List.setIfInBounds_toArray, List.set_cons_zero, List.set_cons_succ]
 refine wpAnyH_done (by kernel_rfl) ?_ _
 have K1' := Lib.hid k1
 clear hHeld hg k1 xa xs xa' xs' hzq K1 hr M1 R1 B1
 have K1 := K1'
 clear K1'
 have xa := (cellOf K1.out 34).trans V34.out
 have xs := (cellOf K1.out 36).trans V36.out
 have hzq : w.heap.size < wd.heap.size := by omega
 go_wp2
 refine wp_region_held_drew (S := fun w' => w'.cell? ⟨w.heap.size, 34, none⟩ = some (.int .u32 Bn) ∧ w'.cell? ⟨w.heap.size, 36, none⟩ = some (.string z.T)) (by kernel_rfl) ⟨xa, xs⟩ (fun hHeld => ?_)
 refine rh_take (i := 0) (k := 34) (v := ?_) rfl rfl (by kernel_rfl) (by kernel_rfl) (by kernel_rfl) (fun _ _ _ h => h) (Or.inl ⟨by rfl, ?_⟩) hHeld ?_
 rotate_left
 ·(intro w hSw; obtain ⟨s0, s1⟩ := hSw; go_simp; try with_reducible rfl)
 simp only [Act.put, List.setIfInBounds_toArray, List.set_cons_zero, List.set_cons_succ]
 refine rh_take (i := 1) (k := 35) (v := ?_) rfl rfl (by kernel_rfl) (by kernel_rfl) (by kernel_rfl) (fun _ _ _ h => h) (Or.inl ⟨by rfl, ?_⟩) hHeld ?_
 rotate_left
 ·(intro w hSw; obtain ⟨s0, s1⟩ := hSw; go_simp; try with_reducible rfl)
 simp only [Act.put, List.setIfInBounds_toArray, List.set_cons_zero, List.set_cons_succ]
 refine rh_take (i := 2) (k := 36) (v := ?_) rfl rfl (by kernel_rfl) (by kernel_rfl) (by kernel_rfl) (fun _ _ _ h => h) (Or.inl ⟨by rfl, ?_⟩) hHeld ?_
 rotate_left
 ·(intro w hSw; obtain ⟨s0, s1⟩ := hSw; go_simp; try with_reducible rfl)
 simp only [Act.put, List.setIfInBounds_toArray, List.set_cons_zero, List.set_cons_succ]
 refine rh_take (i := 3) (k := 37) (v := ?_) rfl rfl (by kernel_rfl) (by kernel_rfl) (by kernel_rfl) (fun _ _ _ h => h) (Or.inl ⟨by rfl, ?_⟩) hHeld ?_
 rotate_left
 ·(intro w hSw; obtain ⟨s0, s1⟩ := hSw; go_simp; try with_reducible rfl)
 simp only [Act.put, List.setIfInBounds_toArray, List.set_cons_zero, List.set_cons_succ]
 refine rh_take (i := 4) (k := 38) (v := ?_) rfl rfl (by kernel_rfl) (by kernel_rfl) (by kernel_rfl) (fun _ _ _ h => h) (Or.inl ⟨by rfl, ?_⟩) hHeld ?_
 rotate_left
 ·(intro w hSw; obtain ⟨s0, s1⟩ := hSw; go_simp; try with_reducible rfl)
 simp only [Act.put, List.setIfInBounds_toArray, List.set_cons_zero, List.set_cons_succ]
 refine rh_take (i := 5) (k := 39) (v := ?_) rfl rfl (by kernel_rfl) (by kernel_rfl) (by kernel_rfl) (fun _ _ _ h => h) (Or.inl ⟨by rfl, ?_⟩) hHeld ?_
 rotate_left
 ·(intro w hSw; obtain ⟨s0, s1⟩ := hSw; go_simp; try with_reducible rfl)
 simp only [Act.put, List.setIfInBounds_toArray, List.set_cons_zero, List.set_cons_succ]
 refine rh_take (i := 6) (k := 40) (v := ?_) rfl rfl (by kernel_rfl) (by kernel_rfl) (by kernel_rfl) (fun _ _ _ h => h) (Or.inl ⟨by rfl, ?_⟩) hHeld ?_
 rotate_left
 ·(intro w hSw; obtain ⟨s0, s1⟩ := hSw; go_simp; try with_reducible rfl)
 simp only [Act.put, List.setIfInBounds_toArray, List.set_cons_zero, List.set_cons_succ]
 refine rh_take (i := 7) (k := 41) (v := ?_) rfl rfl (by kernel_rfl) (by kernel_rfl) (by kernel_rfl) (fun _ _ _ h => h) (Or.inl ⟨by rfl, ?_⟩) hHeld ?_
 rotate_left
 ·(intro w hSw; obtain ⟨s0, s1⟩ := hSw; go_simp; try with_reducible rfl)
 simp only [Act.put, List.setIfInBounds_toArray, List.set_cons_zero, List.set_cons_succ]
 refine rh_take (i := 8) (k := 42) (v := ?_) rfl rfl (by kernel_rfl) (by kernel_rfl) (by kernel_rfl) (fun _ _ _ h => h) (Or.inl ⟨by rfl, ?_⟩) hHeld ?_
 rotate_left
 ·(intro w hSw; obtain ⟨s0, s1⟩ := hSw; go_simp; try with_reducible rfl)
 simp only [Act.put, List.setIfInBounds_toArray, List.set_cons_zero, List.set_cons_succ]
 refine rh_take (i := 9) (k := 43) (v := ?_) rfl rfl (by kernel_rfl) (by kernel_rfl) (by kernel_rfl) (fun _ _ _ h => h) (Or.inl ⟨by rfl, ?_⟩) hHeld ?_
 rotate_left
 ·(intro w hSw; obtain ⟨s0, s1⟩ := hSw; go_simp; try with_reducible rfl)
 simp only [Act.put, List.setIfInBounds_toArray, List.set_cons_zero, List.set_cons_succ]
 rw [← HT1.out]
 refine wpAnyH_ready (rs := [10]) (by kernel_rfl) (by simp) ?_
 refine AllReadyH.cons (i := 10) rfl (fun K hK => ?_) AllReadyH.nil
 go_simp
 refine (Mm.Put_at (Twd.out.mem.below (Below.refl _ wd).drew) Bn _ T1 rfl (by omega) hB2).mono ?_
 rintro e we ⟨rfl, hm, hg⟩
 have M1 := Lib.hid hm
 have R1 := Lib.hid ((Twd.out.ref.below (Below.refl _ wd).drew).other (Twd.out.mem.below (Below.refl _ wd).drew) hg)
 have hbe : Below w.heap.size w we := Twd.out.bel.trans ((Below.refl _ wd).drew.trans ⟨hg.os, hg.tape, hg.output, hg.size, fun k hk => hg.block k (by show k < wd.heap.size; omega) (fun e => by injection e with e; omega)⟩)
 have B1 := Lib.hid hbe
 have k1 : we.heap[w.heap.size]? = some (.cells (wv z) 34 (0, 0)) := (hg.block w.heap.size (by show w.heap.size < wd.heap.size; omega) (fun e => by injection e with e; omega)).trans K1.out
 have xa' := (cellOf k1 34).trans V34.out
 have xs' := (cellOf k1 36).trans V36.out
 have hzwe : w.heap.size + 1 ≤ we.heap.size := Nat.le_trans (show w.heap.size + 1 ≤ wd.heap.size by omega) hg.size
 go_wp2_with fail
 refine hK.out _ _ ⟨xa', xs'⟩ (fun hHeld => ?_)
 clear hK K
 try simp only [Act.put, List.setIfInBounds_toArray, List.set_cons_zero, List.set_cons_succ]
 refine wpAnyH_done (by kernel_rfl) ?_ _
 have K1' := Lib.hid k1
 clear hHeld hg k1 xa xs xa' xs' hzq K1 hm hbe Twd
 have K1 := K1'
 clear K1'
 have xa := (cellOf K1.out 34).trans V34.out
 have xs := (cellOf K1.out 36).trans V36.out
 have hzq : w.heap.size < we.heap.size := by omega
 go_wp2
 refine wp_region_held_drew (S := fun w' => w'.cell? ⟨w.heap.size, 34, none⟩ = some (.int .u32 Bn) ∧ w'.cell? ⟨w.heap.size, 36, none⟩ = some (.string z.T)) (by kernel_rfl) ⟨xa, xs⟩ (fun hHeld => ?_)
 refine rh_take (i := 0) (k := 45) (v := ?_) rfl rfl (by kernel_rfl) (by kernel_rfl) (by kernel_rfl) (fun _ _ _ h => h) (Or.inl ⟨by rfl, ?_⟩) hHeld ?_
 rotate_left
 ·(intro w hSw; obtain ⟨s0, s1⟩ := hSw; go_simp; try with_reducible rfl)
 simp only [Act.put, List.setIfInBounds_toArray, List.set_cons_zero, List.set_cons_succ]
 refine rh_take (i := 1) (k := 46) (v := ?_) rfl rfl (by kernel_rfl) (by kernel_rfl) (by kernel_rfl) (fun _ _ _ h => h) (Or.inl ⟨by rfl, ?_⟩) hHeld ?_
 rotate_left
 ·(intro w hSw; obtain ⟨s0, s1⟩ := hSw; go_simp; try with_reducible rfl)
 simp only [Act.put, List.setIfInBounds_toArray, List.set_cons_zero, List.set_cons_succ]
 refine rh_take (i := 2) (k := 47) (v := ?_) rfl rfl (by kernel_rfl) (by kernel_rfl) (by kernel_rfl) (fun _ _ _ h => h) (Or.inl ⟨by rfl, ?_⟩) hHeld ?_
 rotate_left
 ·(intro w hSw; obtain ⟨s0, s1⟩ := hSw; go_simp; try with_reducible rfl)
 simp only [Act.put, List.setIfInBounds_toArray, List.set_cons_zero, List.set_cons_succ]
 refine rh_take (i := 3) (k := 48) (v := ?_) rfl rfl (by kernel_rfl) (by kernel_rfl) (by kernel_rfl) (fun _ _ _ h => h) (Or.inl ⟨by rfl, ?_⟩) hHeld ?_
 rotate_left
 ·(intro w hSw; obtain ⟨s0, s1⟩ := hSw; go_simp; try with_reducible rfl)
 simp only [Act.put, List.setIfInBounds_toArray, List.set_cons_zero, List.set_cons_succ]
 refine rh_take (i := 4) (k := 49) (v := ?_) rfl rfl (by kernel_rfl) (by kernel_rfl) (by kernel_rfl) (fun _ _ _ h => h) (Or.inl ⟨by rfl, ?_⟩) hHeld ?_
 rotate_left
 ·(intro w hSw; obtain ⟨s0, s1⟩ := hSw; go_simp; try with_reducible rfl)
 simp only [Act.put, List.setIfInBounds_toArray, List.set_cons_zero, List.set_cons_succ]
 refine rh_take (i := 5) (k := 50) (v := ?_) rfl rfl (by kernel_rfl) (by kernel_rfl) (by kernel_rfl) (fun _ _ _ h => h) (Or.inl ⟨by rfl, ?_⟩) hHeld ?_
 rotate_left
 ·(intro w hSw; obtain ⟨s0, s1⟩ := hSw; go_simp; try with_reducible rfl)
 simp only [Act.put, List.setIfInBounds_toArray, List.set_cons_zero, List.set_cons_succ]
 refine rh_take (i := 6) (k := 51) (v := ?_) rfl rfl (by kernel_rfl) (by kernel_rfl) (by kernel_rfl) (fun _ _ _ h => h) (Or.inl ⟨by rfl, ?_⟩) hHeld ?_
 rotate_left
 ·(intro w hSw; obtain ⟨s0, s1⟩ := hSw; go_simp; try with_reducible rfl)
 simp only [Act.put, List.setIfInBounds_toArray, List.set_cons_zero, List.set_cons_succ]
 refine rh_take (i := 7) (k := 52) (v := ?_) rfl rfl (by kernel_rfl) (by kernel_rfl) (by kernel_rfl) (fun _ _ _ h => h) (Or.inl ⟨by rfl, ?_⟩) hHeld ?_
 rotate_left
 ·(intro w hSw; obtain ⟨s0, s1⟩ := hSw; go_simp; try with_reducible rfl)
 simp only [Act.put, List.setIfInBounds_toArray, List.set_cons_zero, List.set_cons_succ]
 refine rh_take (i := 8) (k := 53) (v := ?_) rfl rfl (by kernel_rfl) (by kernel_rfl) (by kernel_rfl) (fun _ _ _ h => h) (Or.inl ⟨by rfl, ?_⟩) hHeld ?_
 rotate_left
 ·(intro w hSw; obtain ⟨s0, s1⟩ := hSw; go_simp; try with_reducible rfl)
 simp only [Act.put, List.setIfInBounds_toArray, List.set_cons_zero, List.set_cons_succ]
 refine rh_take (i := 9) (k := 54) (v := ?_) rfl rfl (by kernel_rfl) (by kernel_rfl) (by kernel_rfl) (fun _ _ _ h => h) (Or.inl ⟨by rfl, ?_⟩) hHeld ?_
 rotate_left
 ·(intro w hSw; obtain ⟨s0, s1⟩ := hSw; go_simp; try with_reducible rfl)
 simp only [Act.put, List.setIfInBounds_toArray, List.set_cons_zero, List.set_cons_succ]
 rw [← HT1.out]
 refine wpAnyH_ready (rs := [10]) (by kernel_rfl) (by simp) ?_
 refine AllReadyH.cons (i := 10) rfl (fun K hK => ?_) AllReadyH.nil
 go_simp
 refine (Mm.rPut_calls q _ _ _ Bn T1 _ (R1.out.below (Below.refl _ we).drew) (by omega) hB2).mono ?_
 rintro e wf ⟨rfl, hrr, hg⟩
 obtain ⟨lwf, hr⟩ := hrr
 have Twf := Aside0.mk (⟨(M1.out.below (Below.refl _ we).drew).byRef (R1.out.below (Below.refl _ we).drew) hg, hr, by omega, by omega, B1.out.trans ((Below.refl _ we).drew.trans ⟨hg.os, hg.tape, hg.output, hg.size, fun k hk => hg.block k (by show k < we.heap.size; omega) (fun e => by injection e with e; omega)⟩)⟩ : Mm.Two w wf p bl q _ _ lwf)
 have k1 : wf.heap[w.heap.size]? = some (.cells (wv z) 34 (0, 0)) := (hg.block w.heap.size (by show w.heap.size < we.heap.size; omega) (fun e => by injection e with e; omega)).trans K1.out
 have xa' := (cellOf k1 34).trans V34.out
 have xs' := (cellOf k1 36).trans V36.out
 have hzwf : w.heap.size + 1 ≤ wf.heap.size := Nat.le_trans (show w.heap.size + 1 ≤ we.heap.size by omega) hg.size
 go_wp2_with fail
 refine hK.out _ _ ⟨xa', xs'⟩ (fun hHeld => ?_)
 clear hK K
 try simp only [Act.put, List.setIfInBounds_toArray, List.set_cons_zero, List.set_cons_succ]
 refine wpAnyH_done (by kernel_rfl) ?_ _
 have K1' := Lib.hid k1
 clear hHeld hg k1 xa xs xa' xs' hzq K1 hr M1 R1 B1
 have K1 := K1'
 clear K1'
 go_wp2
 go_ret2
 exact ⟨p, bl, q, _, _, lwf, rfl, by omega, Twf.out⟩
end Go.Proofs.Ytononmcodecmaaa.Cp
end
section
/- Layer 4: the machine (part KV). -/
namespace Go.Proofs.Ytononmcodecmaaa.Cp
open Go.RowKit Go.Maps Go.Proofs Go.Proofs.YtononmcodecmaaaW Go.Proofs.YtononmcodecmaaaW.PrintWords
set_option maxRecDepth 100000
set_option linter.unusedVariables false
set_option linter.unusedSimpArgs false
attribute [local go_sem] cv_set cv_at cv_size
theorem accessv_end (c : List Int) (f : Nat → Nat) (op rd a b m : Int) : (accessv c f op rd a b m).2.2 = 0 ∨ (accessv c f op rd a b m).2.2 = 5 := by
 unfold accessv
 split
 ·exact Or.inr rfl
 split
 ·exact Or.inl rfl
 ·exact Or.inl rfl
theorem jumpv_end (c : List Int) (f : Nat → Nat) (op rd a b m : Int) : 0 ≤ (jumpv c f op rd a b m).2.2 ∧ (jumpv c f op rd a b m).2.2 ≤ 5 := by
 unfold jumpv
 split
 ·simp
 split
 ·simp
 split
 ·simp
 split
 ·simp
 split
 ·simp
 ·rcases accessv_end c f op rd a b m with h | h <;> omega
theorem stepw_end (c : List Int) (f : Nat → Nat) (z : Int × Int × Int × Int × Int × Int) : 0 ≤ (stepw c f z).2.2 ∧ (stepw c f z).2.2 ≤ 5 := by
 unfold stepw
 split
 ·simp
 split
 ·simp
 ·exact jumpv_end _ _ _ _ _ _ _
theorem stepv_end (c : List Int) (f : Nat → Nat) : 0 ≤ (stepv c f).2.2 ∧ (stepv c f).2.2 ≤ 5 := by
 by_cases h : reg (c.set 0 0) 32 % 4 = 0
 ·rw [stepv_w c f h]
  generalize decT (Mm.ld f (reg (c.set 0 0) 32).toNat 4) = z
  exact stepw_end _ _ _
 ·rw [stepv_m c f h]
  simp
theorem runv_facts : ∀ (k : Nat) (c : List Int) (f : Nat → Nat) (ans : List Int),
  (runv k c f ans).2.2.1.length ≤ (runv k c f ans).2.2.2.2 ∧ (runv k c f ans).2.2.1.length ≤ ans.length + 1 ∧ ((runv k c f ans).2.2.2.1 = 1 ↔ (runv k c f ans).2.2.1.length = ans.length + 1) ∧ ((runv k c f ans).2.2.2.1 = 6 → (runv k c f ans).2.2.2.2 = k) ∧ (runv k c f ans).2.2.2.2 ≤ k
 | 0, c, f, ans => by simp [runv]
 | k + 1, c, f, ans => by
  have he := stepv_end c f
  obtain ⟨z, hz⟩ : ∃ z, stepv c f = z := ⟨_, rfl⟩
  obtain ⟨d, g, e⟩ := z
  rw [hz] at he
  simp only at he
  by_cases h0 : e = 0
  ·subst h0
   rw [run_on k c f ans d g hz]
   have ih := runv_facts k d g ans
   generalize runv k d g ans = T at *
   simp only [gl, List.nil_append]
   omega
  by_cases h1 : e = 1
  ·subst h1
   cases ans with
   | nil =>
    rw [run_last k c f d g hz]
    simp
   | cons a rest =>
    rw [run_call k c f a rest d g hz]
    have ih := runv_facts k (d.set 10 a) g rest
    generalize runv k (d.set 10 a) g rest = T at *
    simp only [gl, List.cons_append, List.nil_append, List.length_cons]
    omega
  ·rw [run_stop k c f ans d g e hz h0 h1]
   simp
   omega
end Go.Proofs.Ytononmcodecmaaa.Cp
end
section
/- Layer 4: the machine (part KW). -/
namespace Go.Proofs.Ytononmcodecmaaa.Cp
open Go.RowKit Go.Maps Go.Proofs Go.Proofs.YtononmcodecmaaaW Go.Proofs.YtononmcodecmaaaW.PrintWords
set_option maxRecDepth 100000
set_option linter.unusedVariables false
set_option linter.unusedSimpArgs false
attribute [local go_sem] cv_set cv_at cv_size
theorem wv_size (z : Wd) (hl : z.c.length = 33) : (wv z).size = 39 := by simp [wv, hl]
theorem infoW : (Try.prog.info? 34).map (·.size) = some 39 := by kernel_rfl
theorem ldW {ops : Array Oper} {rest : List Oper} {o : Oper} {a : Act} {w : World} {Q : Exit → Act → World → Prop} (hgd : o.guard = none) (x : Operand) (ho : o.op = .load 34 x)
  (g : Nat) (hx : a.eval x = .pointer (some ⟨g, 0, none⟩)) (z : Wd) (fr : Nat × Nat) (hg : w.heap[g]? = some (.cells (wv z) 34 fr)) (hc : z.c.length = 33)
  (h : wpList Try.prog ops Q rest (a.put o.dst (.agg (wv z))) w) : wpList Try.prog ops Q (o :: rest) a w :=
 wpList_load_row hgd _ x ho g hx _ _ fr _ hg Try.underlying34 rfl (infoW.trans (by rw [wv_size z hc])) h
theorem loadSub (w : World) (g : Nat) (c : List Int) (hcell : ∀ j, j < 33 → w.cell? ⟨g, j, none⟩ = some (.int .u32 (reg c j))) (hc : c.length = 33) : (loadVar 25 ⟨g, 0, none⟩).run Try.prog w = .ok (.agg (cv c)) w := by
 have hl : (loadCells ⟨g, 0, none⟩ (cv c).toList.length).run Try.prog w = .ok (cv c).toList.toArray w :=
  run_loadCells_list (P := Try.prog) w ⟨g, 0, none⟩ (cv c).toList (fun j v hv => by
   have hadd : (⟨g, 0, none⟩ : Addr).add j = ⟨g, j, none⟩ := by unfold Addr.add; split <;> simp_all
   have hj : j < 33 := by
    have := (List.getElem?_eq_some_iff.1 hv).1
    rw [Array.length_toList, cv_size] at this
    omega
   rw [hadd, hcell j hj]
   rw [Array.getElem?_toList, cv_get c j (by omega)] at hv
   exact hv)
 have hi := infoC
 cases hq : Try.prog.info? 25 with
 | none => simp [hq] at hi
 | some i =>
  have hs : i.size = 33 := by simpa [hq] using hi
  have hagg : (isAgg 25).run Try.prog w = .ok true w := by
   unfold isAgg
   rw [Sem.run_bind, run_underlying Try.underlying25 w]
   simp
  simp only [Array.length_toList, Array.toArray_toList, cv_size, hc] at hl
  simp [loadVar, Sem.run_bind, hagg, sizeOf, typeInfo, hq, hs, hl]
theorem ldS {ops : Array Oper} {rest : List Oper} {o : Oper} {a : Act} {w : World} {Q : Exit → Act → World → Prop} (hgd : o.guard = none) (x : Operand) (ho : o.op = .load 25 x)
  (g : Nat) (hx : a.eval x = .pointer (some ⟨g, 0, none⟩)) (z : Wd) (t : TypeId) (fr : Nat × Nat) (hg : w.heap[g]? = some (.cells (wv z) t fr)) (hc : z.c.length = 33)
  (h : wpList Try.prog ops Q rest (a.put o.dst (.agg (cv z.c))) w) : wpList Try.prog ops Q (o :: rest) a w := by
 refine wpList_plain hgd fun K hK => ?_
 have hld := loadSub w g z.c (fun j hj => by rw [cell_of_row w g j _ t fr hg, wv_c z hc j hj]) hc
 unfold Oper.wp execOp
 simp only [ho, hx, Instr.loadAt, Instr.sureAddr, Sem.run_bind, Sem.run_pure, Result.andThen_ok, hld]
 exact hK _ _ h
theorem AnsAt.below {w w' : World} {A : Option Addr} {ans : List Int} (h : AnsAt w A ans) (hB : Below w.heap.size w w') : AnsAt w' A ans := by
 intro i hi
 obtain ⟨ad, e, hb, hc⟩ := h i hi
 refine ⟨ad, e, Nat.lt_of_lt_of_le hb hB.size, ?_⟩
 exact (World.cell?_of_block (by rw [add_block]; exact hB.block ad.block hb)).trans hc
theorem putn_lt (f : Nat → Nat) (a : Nat) (g : Nat → Nat) (hf : ∀ x, f x < 256) (hg : ∀ j, g j < 256) : ∀ k x, Mm.putn f a g k x < 256
 | 0, x => hf x
 | k + 1, x => by
  unfold Mm.putn Mm.upd
  split
  ·exact hg k
  ·exact putn_lt f a g hf hg k x
theorem accessv_lt (c : List Int) (f : Nat → Nat) (hf : ∀ x, f x < 256) (op rd a b m : Int) : ∀ x, (accessv c f op rd a b m).2.1 x < 256 := by
 unfold accessv
 split
 ·exact hf
 split
 ·exact putn_lt f _ _ hf (fun j => Nat.mod_lt _ (by omega)) _
 ·exact hf
theorem jumpv_lt (c : List Int) (f : Nat → Nat) (hf : ∀ x, f x < 256) (op rd a b m : Int) : ∀ x, (jumpv c f op rd a b m).2.1 x < 256 := by
 unfold jumpv
 split
 ·exact hf
 split
 ·exact hf
 split
 ·exact hf
 split
 ·exact hf
 split
 ·exact hf
 ·exact accessv_lt c f hf _ _ _ _ _
theorem stepw_lt (c : List Int) (f : Nat → Nat) (hf : ∀ x, f x < 256) (z : Int × Int × Int × Int × Int × Int) : ∀ x, (stepw c f z).2.1 x < 256 := by
 unfold stepw
 split
 ·exact hf
 split
 ·exact hf
 ·exact jumpv_lt c f hf _ _ _ _ _
theorem stepv_lt (c : List Int) (f : Nat → Nat) (hf : ∀ x, f x < 256) : ∀ x, (stepv c f).2.1 x < 256 := by
 by_cases h : reg (c.set 0 0) 32 % 4 = 0
 ·rw [stepv_w c f h]
  generalize decT (Mm.ld f (reg (c.set 0 0) 32).toNat 4) = z
  exact stepw_lt _ _ hf _
 ·rw [stepv_m c f h]
  exact hf
theorem runv_wc : ∀ (k : Nat) (c : List Int) (f : Nat → Nat) (ans : List Int) (_ : ∀ x, f x < 256) (_ : ∀ i, 0 ≤ ans.getD i 0 ∧ ans.getD i 0 < 4294967296) (_ : Wc c), Wc (runv k c f ans).1
 | 0, c, f, ans, _, _, hc => by simp only [runv]; exact hc
 | k + 1, c, f, ans, hf, ha, hc => by
  have hw := hc.step f hf
  have hl := stepv_lt c f hf
  obtain ⟨z, hz⟩ : ∃ z, stepv c f = z := ⟨_, rfl⟩
  obtain ⟨d, g, e⟩ := z
  rw [hz] at hw hl
  simp only at hw hl
  by_cases h0 : e = 0
  ·subst h0
   rw [run_on k c f ans d g hz]
   exact runv_wc k d g ans hl ha hw
  by_cases h1 : e = 1
  ·subst h1
   cases ans with
   | nil => rw [run_last k c f d g hz]; exact hw
   | cons a rest =>
    rw [run_call k c f a rest d g hz]
    exact runv_wc k (d.set 10 a) g rest hl (fun i => ha (i + 1)) (hw.set 10 a (ha 0))
  ·rw [run_stop k c f ans d g e hz h0 h1]
   exact hw
theorem runv_len (k : Nat) (c : List Int) (f : Nat → Nat) (ans : List Int) (hf : ∀ x, f x < 256) (ha : ∀ i, 0 ≤ ans.getD i 0 ∧ ans.getD i 0 < 4294967296) (hc : Wc c) : (runv k c f ans).1.length = 33 := (runv_wc k c f ans hf ha hc).len
end Go.Proofs.Ytononmcodecmaaa.Cp
end
section
/- Layer 4: the machine (part KX). -/
namespace Go.Proofs.Ytononmcodecmaaa.Cp
open Go.RowKit Go.Maps Go.Proofs Go.Proofs.YtononmcodecmaaaW Go.Proofs.YtononmcodecmaaaW.PrintWords
set_option maxRecDepth 100000
set_option linter.unusedVariables false
set_option linter.unusedSimpArgs false
attribute [local go_sem] cv_set cv_at cv_size
def One (d c : List Int) : Prop := ∃ r, ∀ i, i < 32 → i ≠ r → reg d i = reg c i
def cnt (d c : List Int) : Nat → Nat
 | 0 => 0
 | j + 1 => cnt d c j + (if reg d j ≠ reg c j then 1 else 0)
end Go.Proofs.Ytononmcodecmaaa.Cp
end
section
/- Layer 4: the machine (part KQ). -/
namespace Go.Proofs.Ytononmcodecmaaa.Cp
open Go.RowKit Go.Maps Go.Proofs Go.Proofs.YtononmcodecmaaaW Go.Proofs.YtononmcodecmaaaW.PrintWords
set_option maxRecDepth 100000
set_option linter.unusedVariables false
set_option linter.unusedSimpArgs false
attribute [local go_sem] cv_set cv_at cv_size
theorem ldCw {ops : Array Oper} {rest : List Oper} {o : Oper} {a : Act} {w : World} {Q : Exit → Act → World → Prop} (hw : Region.wanted o (yielded ops a.tmps) = true) (x : Operand) (ho : o.op = .load 25 x)
  (g : Nat) (hx : a.eval x = .pointer (some ⟨g, 0, none⟩)) (c : List Int) (fr : Nat × Nat) (hg : w.heap[g]? = some (.cells (cv c) 25 fr)) (hc : c.length = 33)
  (h : wpList Try.prog ops Q rest (a.put o.dst (.agg (cv c))) w) : wpList Try.prog ops Q (o :: rest) a w :=
 BigFrame.wpList_want hw fun _ hK => wp_load_row _ x ho g hx _ _ fr _ hg Try.underlying25 rfl (infoC.trans (by rw [cv_size, hc])) (hK _ _ h)
theorem eqU (d : Nat) (z : Int) (w : World) : (Op.equalIn (d + 1) 22 (.int .u32 z) (.int .u32 z)).run Try.prog w = .ok true w := by
 simp [Op.equalIn, Sem.run_bind, run_underlying Try.underlying22]
theorem partU (xs : Array Value) (i : Nat) (z : Int) (h : xs[i]? = some (.int .u32 z)) (w : World) : (part 22 xs i).run Try.prog w = .ok (.int .u32 z) w :=
 run_part_plain w (by kernel_rfl) h
theorem eqItems_refl (d : Nat) (xs : Array Value) (w : World) : ∀ is : List Nat, (∀ i ∈ is, ∃ z, xs[i]? = some (.int .u32 z)) → (Op.eqItems (d + 1) 22 1 xs xs is).run Try.prog w = .ok true w
 | [], _ => by simp [Op.eqItems]
 | i :: is, h => by
  obtain ⟨z, hz⟩ := h i (List.mem_cons_self)
  have ih := eqItems_refl d xs w is (fun j hj => h j (List.mem_cons_of_mem _ hj))
  simp only [Op.eqItems, Sem.run_bind, Nat.mul_one, partU xs i z hz w, Result.andThen_ok, eqU d z w]
  simpa using ih
theorem eqArr (d : Nat) (c : List Int) (hc : 32 ≤ c.length) (w : World) : (Op.equalIn (d + 2) 23 (.agg ((cv c).extract 0 32)) (.agg ((cv c).extract 0 32))).run Try.prog w = .ok true w := by
 obtain ⟨i, hi⟩ : ∃ i, Try.prog.info? 22 = some i := ⟨_, rfl⟩
 rw [run_equalIn_array w (d + 1) _ _ Try.underlying23 hi, show Try.prog.cellsOf 22 = 1 by kernel_rfl]
 refine eqItems_refl d _ w _ (fun j hj => ?_)
 have hj : j < 32 := by simpa using hj
 refine ⟨reg c j, ?_⟩
 rw [Array.getElem?_extract, if_pos (by rw [cv_size]; omega), Nat.zero_add, cv_get c j (by omega)]
theorem eqC (c : List Int) (hc : c.length = 33) (w : World) : (Op.equalIn 10000 25 (.agg (cv c)) (.agg (cv c))).run Try.prog w = .ok true w := by
 refine (eqA_of (d := 9999) Try.underlying25 (by kernel_rfl) ?_ : (Op.equalIn (9999 + 1) 25 (.agg (cv c)) (.agg (cv c))).run Try.prog w = .ok true w)
 have h0 : ∀ w, (part 23 (cv c) 0).run Try.prog w = .ok (.agg ((cv c).extract 0 32)) w := by
  intro w
  obtain ⟨i, hi⟩ : ∃ i, Try.prog.info? 23 = some i := ⟨_, rfl⟩
  have hs : Try.prog.cellsOf 23 = 32 := by kernel_rfl
  simp only [part, isAgg, Sem.run_bind, run_underlying Try.underlying23, Result.andThen_ok, Sem.run_pure, if_true, run_sizeOf w hi, hs, Nat.zero_add]
 have h1 := partU (cv c) 32 (reg c 32) (cv_get c 32 (by omega)) w
 have e1 := eqArr 9997 c (by omega) w
 rw [show 9997 + 2 = 9999 from rfl] at e1
 have e2 := eqU 9998 (reg c 32) w
 rw [show 9998 + 1 = 9999 from rfl] at e2
 have e3 := eqf_last (P := Try.prog) (d := 9999) (xs := cv c) (ys := cv c) (f := ⟨"Pc", 22, 32, false, "", "", 128⟩) rfl h1 h1 e2
 have e4 := eqf_cons (P := Try.prog) (d := 9999) (xs := cv c) (ys := cv c) (f := ⟨"X", 23, 0, false, "", "", 0⟩) rfl (h0 w) (h0 w) e1 e3
 exact e4
theorem eqB (c : List Int) (hc : c.length = 33) (w : World) : (binOp .eql 25 (.agg (cv c)) (.agg (cv c))).run Try.prog w = .ok (.bool true) w := by
 rw [run_eql_struct, eqC c hc w]
 rfl
end Go.Proofs.Ytononmcodecmaaa.Cp
end
section
/- Layer 4: the machine (part K1). -/
namespace Go.Proofs.Ytononmcodecmaaa.Cp
open Go.RowKit Go.Maps Go.Proofs Go.Proofs.YtononmcodecmaaaW Go.Proofs.YtononmcodecmaaaW.PrintWords
set_option maxRecDepth 100000
set_option linter.unusedVariables false
set_option linter.unusedSimpArgs false
attribute [local go_sem] cv_set cv_at cv_size
theorem gl_nil (r : List Int × (Nat → Nat) × List (List Int) × Int × Nat) : gl [] 0 r = r := rfl
theorem runv_parts : ∀ (k m : Nat) (c : List Int) (f : Nat → Nat) (ans : List Int), runv (k + m) c f ans =
  if (runv k c f ans).2.2.2.1 = 6 then gl (runv k c f ans).2.2.1 k (runv m (runv k c f ans).1 (runv k c f ans).2.1 (ans.drop (runv k c f ans).2.2.1.length)) else runv k c f ans
 | 0, m, c, f, ans => by
  have e0 : runv 0 c f ans = (c, f, [], 6, 0) := rfl
  rw [Nat.zero_add, e0, if_pos rfl]
  simp only [List.length_nil, List.drop_zero, gl_nil]
 | k + 1, m, c, f, ans => by
  have he := stepv_end c f
  rw [Nat.add_right_comm]
  obtain ⟨z, hz⟩ : ∃ z, stepv c f = z := ⟨_, rfl⟩
  obtain ⟨d, g, e⟩ := z
  rw [hz] at he
  simp only at he
  by_cases h0 : e = 0
  ·subst h0
   rw [run_on k c f ans d g hz, run_on (k + m) c f ans d g hz, runv_parts k m d g ans]
   generalize runv k d g ans = T
   have e1 : (gl [] 1 T).2.2.2.1 = T.2.2.2.1 := rfl
   have e2 : (gl [] 1 T).2.2.1 = T.2.2.1 := rfl
   have e3 : (gl [] 1 T).1 = T.1 := rfl
   have e4 : (gl [] 1 T).2.1 = T.2.1 := rfl
   rw [e1, e2, e3, e4]
   split
   ·rw [gl_gl, List.nil_append, Nat.add_comm 1 k]
   ·rfl
  by_cases h1 : e = 1
  ·subst h1
   cases ans with
   | nil =>
    rw [run_last k c f d g hz, run_last (k + m) c f d g hz]
    simp
   | cons a rest =>
    rw [run_call k c f a rest d g hz, run_call (k + m) c f a rest d g hz, runv_parts k m (d.set 10 a) g rest]
    generalize runv k (d.set 10 a) g rest = T
    have e1 : (gl [callv d] 1 T).2.2.2.1 = T.2.2.2.1 := rfl
    have e2 : (gl [callv d] 1 T).2.2.1 = callv d :: T.2.2.1 := rfl
    have e3 : (gl [callv d] 1 T).1 = T.1 := rfl
    have e4 : (gl [callv d] 1 T).2.1 = T.2.1 := rfl
    rw [e1, e2, e3, e4, List.length_cons, List.drop_succ_cons]
    split
    ·rw [gl_gl, Nat.add_comm 1 k]
     rfl
    ·rfl
  ·rw [run_stop k c f ans d g e hz h0 h1, run_stop (k + m) c f ans d g e hz h0 h1]
   have : e ≠ 6 := by omega
   simp [this]
theorem runv_more (k m : Nat) (c : List Int) (f : Nat → Nat) (ans : List Int) (h : (runv k c f ans).2.2.2.1 ≠ 6) : runv (k + m) c f ans = runv k c f ans := by
 rw [runv_parts, if_neg h]
theorem runv_steps (k m : Nat) (c : List Int) (f : Nat → Nat) (ans : List Int) : (runv k c f ans).2.2.2.2 ≤ (runv (k + m) c f ans).2.2.2.2 := by
 by_cases h : (runv k c f ans).2.2.2.1 = 6
 ·have hk := (runv_facts k c f ans).2.2.2.1 h
  rw [runv_parts, if_pos h, hk]
  exact Nat.le_add_left _ _
 ·rw [runv_more k m c f ans h]
  exact Nat.le_refl _
end Go.Proofs.Ytononmcodecmaaa.Cp
end
section
/- Layer 4: the machine (part K2). -/
namespace Go.Proofs.Ytononmcodecmaaa.Cp
open Go.RowKit Go.Maps Go.Proofs Go.Proofs.YtononmcodecmaaaW Go.Proofs.YtononmcodecmaaaW.PrintWords
set_option maxRecDepth 100000
set_option linter.unusedVariables false
set_option linter.unusedSimpArgs false
attribute [local go_sem] cv_set cv_at cv_size
theorem i64_and15 (x : Int) : ∃ J : Nat, Go.bits .and .i64 x 15 = (J : Int) ∧ J ≤ 15 := by
 refine ⟨(BitVec.ofInt 64 x).toNat % 16, ?_, by omega⟩
 show IntKind.i64.wrap ((BitVec.ofInt 64 x &&& BitVec.ofInt 64 (15 : Int)).toNat : Int) = _
 rw [BitVec.toNat_and, show (BitVec.ofInt 64 (15 : Int)).toNat = 15 from rfl, nat_mask4, IntKind.wrap_i64]
 omega
theorem belowG {w w1 w2 : World} {b : Nat} (h : Below w.heap.size w w1) (hg : w1.grownBy w2 (some b)) (hb : w.heap.size ≤ b) : Below w.heap.size w w2 :=
 h.trans ⟨hg.os, hg.tape, hg.output, hg.size, fun k hk => hg.block k (Nat.lt_of_lt_of_le hk h.size) (fun e => by injection e with e; omega)⟩
theorem belowN {w w1 w2 : World} (h : Below w.heap.size w w1) (hg : w1.grownBy w2 none) : Below w.heap.size w w2 :=
 h.trans ⟨hg.os, hg.tape, hg.output, hg.size, fun k hk => hg.block k (Nat.lt_of_lt_of_le hk h.size) (fun e => by cases e)⟩
theorem belowE {w w' : World} (hg : w.grownBy w' none) : Below w.heap.size w w' := belowN (Below.refl _ w) hg
theorem rowB {w w' : World} {g : Nat} {cs : Array Value} {t : TypeId} {fr : Nat × Nat} (h : w.heap[g]? = some (.cells cs t fr)) (hB : Below w.heap.size w w') : w'.heap[g]? = some (.cells cs t fr) :=
 (hB.block g (Array.getElem?_eq_some_iff.1 h).1).trans h
theorem rowG {w w' : World} {g b : Nat} {cs : Array Value} {t : TypeId} {fr : Nat × Nat} (h : w.heap[g]? = some (.cells cs t fr)) (hg : w.grownBy w' (some b)) (hne : g ≠ b) : w'.heap[g]? = some (.cells cs t fr) :=
 (hg.block g (Array.getElem?_eq_some_iff.1 h).1 (fun e => hne (by injection e))).trans h
theorem neqB (c : List Int) (hc : c.length = 33) (w : World) : (binOp .neq 25 (.agg (cv c)) (.agg (cv c))).run Try.prog w = .ok (.bool false) w := by
 rw [run_neq_struct, eqC c hc w]
 rfl
set_option maxHeartbeats 8000000 in
theorem row_CpuFuel (z : Wd) (more : Int) (w : World) (hz : WdOk w z) (q0 : (Lit.int .i64 more).wf = true) : Calls Try.prog 8 #[.agg (wv z), .int .i64 more] w fun e w' => e = .returned (.bool true) ∧ Below w.heap.size w w' := by
 clear q0
 have hl := hz.wc.len
 have HZ := Lib.hid hz
 have hb0 : Below w.heap.size w (w.alloc (.cells (wv z) 34)) := (Below.refl _ w).alloc (Nat.le_refl _) _
 have HLD := Lib.hid (Laid_calls z (w.alloc (.cells (wv z) 34)) ⟨hz.wc, hz.hA, hz.hB, hz.hS, hz.hT, hz.ans.below hb0, hz.rng, hz.len, hz.fuel⟩)
 have HAL := Lib.hid (Nat.lt_of_le_of_lt hz.len (Nat.lt_trans reachBytes_lt (by decide)) : z.ans.length < 4611686018427387904)
 obtain ⟨v33, v34, v35, v36, v37, v38⟩ := wv_at z hl
 have V37 := Lib.hid v37
 have V38 := Lib.hid v38
 obtain ⟨J, hJ, hJ15⟩ := i64_and15 more
 have HJ := Lib.hid hJ
 clear v33 v34 v35 v36 v37 v38 hz hb0 hJ
 go_enter Try.func8, Try.ntmps8
 go_wp2_with (first | refine ldW rfl _ rfl _ rfl z (0, 0) (heap_alloc_new _ _) hl ?_ | (go_at_call 12; refine hold_ ?_))
 intro _
 refine HLD.out.mono ?_
 rintro e wa ⟨p, bl, q, n, f, l, rfl, hn, T0⟩
 have k0 : wa.heap[w.heap.size]? = some (.cells (wv z) 34 (0, 0)) := (T0.bel.block _ (by simp)).trans (heap_alloc_new _ _)
 have hB : Below w.heap.size w wa := ((Below.refl _ w).alloc (Nat.le_refl _) _).trans (T0.bel.mono (by simp))
 have hblw : w.heap.size < bl := by have := T0.hb; simp at this; omega
 have hza : w.heap.size + 1 ≤ wa.heap.size := by have := T0.bel.size; simpa using this
 have HM := Lib.hid T0.mem
 have K0 := Lib.hid k0
 have HB := Lib.hid hB
 have hpl := T0.mem.lt
 have hbll := T0.mem.map.lt
 clear T0 k0 hB HLD
 have x38 := (cellOf K0.out 38).trans V38.out
 have hz0 : w.heap.size < wa.heap.size := by omega
 go_wp2_with (go_at_call 19; refine hold_ ?_)
 intro _
 refine (Mm.Copy_calls p bl n f wa HM.out).mono ?_
 rintro e wb ⟨rfl, hm2, hm1, hg⟩
 have HM1 := Lib.hid hm1
 have HM2 := Lib.hid hm2
 have K01 := Lib.hid (rowB K0.out (belowE hg))
 have HB1 := Lib.hid (belowN HB.out hg)
 have hzb := hg.size
 have hp2l := hm2.lt
 obtain ⟨b2, hb2⟩ : ∃ b2, b2 = wa.heap.size := ⟨_, rfl⟩
 obtain ⟨p2, hp2⟩ : ∃ p2, p2 = wa.heap.size + 1 := ⟨_, rfl⟩
 rw [← hp2, ← hb2] at HM2
 rw [← hp2] at hp2l ⊢
 have hb2w : wa.heap.size ≤ b2 := by omega
 have hb2p : b2 < p2 := by omega
 clear hm1 hm2 hg HM K0 HB x38 hz0 hb2 hp2
 have x38 := (cellOf K01.out 38).trans V38.out
 have hz0 : w.heap.size < wb.heap.size := by omega
 go_wp2_with (go_at_call 19; refine hold_ ?_)
 intro _
 refine (Mm.Copy_calls p bl n f wb HM1.out).mono ?_
 rintro e wc ⟨rfl, hm3, hm1, hg⟩
 have HM1' := Lib.hid hm1
 have HM3 := Lib.hid hm3
 have HM2' := Lib.hid (HM2.out.below (belowE hg))
 have K02 := Lib.hid (rowB K01.out (belowE hg))
 have HB2 := Lib.hid (belowN HB1.out hg)
 have hzc := hg.size
 have hp3l := hm3.lt
 obtain ⟨b3, hb3⟩ : ∃ b3, b3 = wb.heap.size := ⟨_, rfl⟩
 obtain ⟨p3, hp3⟩ : ∃ p3, p3 = wb.heap.size + 1 := ⟨_, rfl⟩
 rw [← hp3, ← hb3] at HM3
 rw [← hp3] at hp3l ⊢
 have hb3w : wb.heap.size ≤ b3 := by omega
 have hb3p : b3 < p3 := by omega
 clear hm1 hm3 hg HM1 HM2 K01 HB1 x38 hz0 hb3 hp3
 have HM1 := HM1'
 have HM2 := HM2'
 clear HM1' HM2'
 have x37 := (cellOf K02.out 37).trans V37.out
 have hz0 : w.heap.size < wc.heap.size := by omega
 go_wp2_with (first | refine ldS rfl _ rfl _ rfl z _ (0, 0) K02.out hl ?_ | (go_at_call 13; refine hold_ ?_))
 intro _
 refine (Run_calls z.c HZ.out.wc p bl n f wc HM1.out (by omega) z.an z.ac z.ans (HZ.out.ans.below HB2.out) HZ.out.rng HAL.out 0 (by omega) (z.c.set 0 0, f, [], 6, 0) rfl).mono ?_
 rintro e wd ⟨v1, rfl, hown, _, hg⟩
 obtain ⟨o1, cp1, rfl, -⟩ := own_optK hown
 have hl0 : (z.c.set 0 0).length = 33 := by rw [List.length_set, hl]
 have hal : Below wd.heap.size wd (wd.alloc (.cells (cv (z.c.set 0 0)) 25)) := (Below.refl _ _).alloc (Nat.le_refl _) _
 have HM2' := Lib.hid ((HM2.out.other hg (by omega) (by omega)).below hal)
 have HM3' := Lib.hid ((HM3.out.other hg (by omega) (by omega)).below hal)
 have K03 := Lib.hid (rowB (rowG K02.out hg (by omega)) hal)
 have HB3 := Lib.hid (belowS hal (belowG HB2.out hg (by omega)))
 have K10 := Lib.hid (heap_alloc_new wd (.cells (cv (z.c.set 0 0)) 25))
 have hzd := hg.size
 have hzd2 : (wd.alloc (.cells (cv (z.c.set 0 0)) 25)).heap.size = wd.heap.size + 1 := by simp
 clear hown hg hal HM1 HM2 HM3 K02 HB2 x37 hz0
 have HM2 := HM2'
 have HM3 := HM3'
 clear HM2' HM3'
 have x37 := (cellOf K03.out 37).trans V37.out
 have hz0 : w.heap.size < (wd.alloc (.cells (cv (z.c.set 0 0)) 25)).heap.size := by omega
 go_wp2_with (first | refine alC rfl rfl ?_ | refine stN rfl _ _ rfl _ rfl rfl zs hl0 rfl ?_ | refine ldS rfl _ rfl _ rfl z _ (0, 0) K03.out hl ?_ | (go_at_call 13; refine hold_ ?_))
 intro _
 obtain ⟨g10, hg10⟩ : ∃ g10, g10 = wd.heap.size := ⟨_, rfl⟩
 generalize (wd.alloc (.cells (cv (z.c.set 0 0)) 25)) = w5 at *
 rw [← hg10] at K10 hzd hzd2 ⊢
 clear hg10
 obtain ⟨T1, hT1⟩ : ∃ T1, T1 = runv (max 0 (min z.fuel 40)).toNat (z.c.set 0 0) f z.ans := ⟨_, rfl⟩
 refine (Run_calls z.c HZ.out.wc p2 b2 n f w5 HM2.out (by omega) z.an z.ac z.ans (HZ.out.ans.below HB3.out) HZ.out.rng HAL.out (max 0 (min z.fuel 40)) (by omega) T1 hT1).mono ?_
 rintro e w6 ⟨v2, rfl, hown, ⟨n2, hn2, hm2⟩, hg⟩
 obtain ⟨o2, cp2, rfl, -⟩ := own_optK hown
 have hfl := HM2.out.map.2.1
 have hld1 : T1.1.length = 33 := by
  have := runv_len (max 0 (min z.fuel 40)).toNat (z.c.set 0 0) f z.ans hfl HZ.out.rng (HZ.out.wc.set 0 0 (by omega))
  rw [← hT1] at this
  exact this
 have hal : Below w6.heap.size w6 (w6.alloc (.cells (cv T1.1) 25)) := (Below.refl _ _).alloc (Nat.le_refl _) _
 have HM2' := Lib.hid (hm2.below hal)
 have HM3' := Lib.hid ((HM3.out.other hg (by omega) (by omega)).below hal)
 have K04 := Lib.hid (rowB (rowG K03.out hg (by omega)) hal)
 have HB4 := Lib.hid (belowS hal (belowG HB3.out hg (by omega)))
 have K10' := Lib.hid (rowB (rowG K10.out hg (by omega)) hal)
 have K14 := Lib.hid (heap_alloc_new w6 (.cells (cv T1.1) 25))
 have hz6 := hg.size
 have hz62 : (w6.alloc (.cells (cv T1.1) 25)).heap.size = w6.heap.size + 1 := by simp
 have HFL := Lib.hid hfl
 have HT1 := Lib.hid hT1
 clear hown hg hal HM2 HM3 K03 K10 HB3 x37 hz0 hfl hT1 hm2
 have HM2 := HM2'
 have HM3 := HM3'
 have K10 := K10'
 clear HM2' HM3' K10'
 have x37 := (cellOf K04.out 37).trans V37.out
 have hz0 : w.heap.size < (w6.alloc (.cells (cv T1.1) 25)).heap.size := by omega
 have hJe := HJ.out
 have hJw : IntKind.i64.wrap (max 0 (min z.fuel 40) + (J : Int)) = max 0 (min z.fuel 40) + (J : Int) := by rw [IntKind.wrap_i64]; omega
 go_wp2_with (first | refine alC rfl rfl ?_ | refine stN rfl _ _ rfl _ rfl rfl zs hld1 rfl ?_ | refine ldS rfl _ rfl _ rfl z _ (0, 0) K04.out hl ?_ | (go_at_call 13; refine hold_ ?_))
 intro _
 obtain ⟨g14, hg14⟩ : ∃ g14, g14 = w6.heap.size := ⟨_, rfl⟩
 generalize (w6.alloc (.cells (cv T1.1) 25)) = w7 at *
 rw [← hg14] at K14 hz6 hz62 ⊢
 clear hg14 hJe hJw
 obtain ⟨T2, hT2⟩ : ∃ T2, T2 = runv (max 0 (min z.fuel 40) + (J : Int)).toNat (z.c.set 0 0) f z.ans := ⟨_, rfl⟩
 refine (Run_calls z.c HZ.out.wc p3 b3 n f w7 HM3.out (by omega) z.an z.ac z.ans (HZ.out.ans.below HB4.out) HZ.out.rng HAL.out (max 0 (min z.fuel 40) + (J : Int)) (by omega) T2 hT2).mono ?_
 rintro e w8 ⟨v3, rfl, hown, ⟨n3, hn3, hm3⟩, hg⟩
 obtain ⟨o3, cp3, rfl, -⟩ := own_optK hown
 have hld2 : T2.1.length = 33 := by
  have := runv_len (max 0 (min z.fuel 40) + (J : Int)).toNat (z.c.set 0 0) f z.ans HFL.out HZ.out.rng (HZ.out.wc.set 0 0 (by omega))
  rw [← hT2] at this
  exact this
 have hST : T1.2.2.2.2 ≤ (max 0 (min z.fuel 40)).toNat ∧ T1.2.2.2.2 ≤ T2.2.2.2.2 ∧ (T1.2.2.2.1 ≠ 6 → T2 = T1) := by
  have e2 : (max 0 (min z.fuel 40) + (J : Int)).toNat = (max 0 (min z.fuel 40)).toNat + J := by omega
  rw [hT2, HT1.out, e2]
  exact ⟨(runv_facts _ _ _ _).2.2.2.2, runv_steps _ _ _ _ _, runv_more _ _ _ _ _⟩
 have hal : Below w8.heap.size w8 ((w8.alloc (.cells (cv T2.1) 25)).alloc (.cells (cv (z.c.set 0 0)) 25)) := ((Below.refl _ _).alloc (Nat.le_refl _) _).alloc (by simp) _
 have HM2' := Lib.hid ((HM2.out.other hg (by omega) (by omega)).below hal)
 have HM3' := Lib.hid (hm3.below hal)
 have K05 := Lib.hid ((Below.heap_alloc w8 (.cells (cv T2.1) 25) w.heap.size (by have := hg.size; omega)).trans (rowG K04.out hg (by omega)))
 have HB5 := Lib.hid (belowS hal (belowG HB4.out hg (by omega)))
 have K10' := Lib.hid (rowB (rowG K10.out hg (by omega)) hal)
 have K14' := Lib.hid (rowB (rowG K14.out hg (by omega)) hal)
 have K18 := Lib.hid (heap_alloc2_old w8 (.cells (cv T2.1) 25) (.cells (cv (z.c.set 0 0)) 25))
 have K22 := Lib.hid (heap_alloc2_new w8 (.cells (cv T2.1) 25) (.cells (cv (z.c.set 0 0)) 25))
 have hz8 := hg.size
 have HST := Lib.hid hST
 clear hown hg hal HM2 HM3 K04 K10 K14 HB4 x37 hz0 hT2 hST hm3 HT1 HFL
 have HM2 := HM2'
 have HM3 := HM3'
 have K10 := K10'
 have K14 := K14'
 clear HM2' HM3' K10' K14'
 go_wp2_with (first | ((with_reducible refine gate_dst (N := 86) rfl ?_); refine hold_ ?_) | refine alC rfl rfl ?_ | refine stN rfl _ _ rfl _ rfl rfl zs hld2 rfl ?_ | refine stN rfl _ _ rfl _ rfl rfl zs hl rfl ?_ | refine ldS rfl _ rfl _ rfl z _ (0, 0) K05.out hl ?_)
 intro _
 obtain ⟨g18, hg18⟩ : ∃ g18, g18 = w8.heap.size := ⟨_, rfl⟩
 obtain ⟨g22, hg22⟩ : ∃ g22, g22 = w8.heap.size + 1 := ⟨_, rfl⟩
 have hsz9 : ((w8.alloc (.cells (cv T2.1) 25)).alloc (.cells (cv (z.c.set 0 0)) 25)).heap.size = w8.heap.size + 2 := by simp
 generalize ((w8.alloc (.cells (cv T2.1) 25)).alloc (.cells (cv (z.c.set 0 0)) 25)) = w9 at *
 rw [← hg22] at K22 ⊢
 rw [← hg18] at K18 ⊢
 have hq10 : g10 < w9.heap.size := by omega
 have hq14 : g14 < w9.heap.size := by omega
 have hq18 : g18 < w9.heap.size := by omega
 have hq22 : g22 < w9.heap.size := by omega
 have hzw9 : w.heap.size < w9.heap.size := by omega
 clear hsz9 hg18 hg22 K05
 have HF := Lib.hid fixed_calls
 have hneq := fun w => neqB (z.c.set 0 0) hl0 w
 obtain ⟨c1, f1, cs1, e1, s1⟩ := T1
 obtain ⟨c2, f2, cs2, e2, s2⟩ := T2
 simp only at hld1 hld2 HST HM2 HM3 K14 K18 hn2 hn3
 obtain ⟨hs1, hs2, hmo⟩ := HST.out
 have hm1 : ¬ max 0 (min z.fuel 40) < (s1 : Int) := by omega
 have hm2 : ¬ (s2 : Int) < (s1 : Int) := by omega
 have hm3 : ¬ s2 < s1 := by omega
 have HMO := Lib.hid hmo
 have HS1 := Lib.hid hs1
 have HS2 := Lib.hid hs2
 clear HST hs1 hs2 hmo
 by_cases h6 : e1 = 6
 ·subst h6
  clear HMO
  refine ldC rfl _ rfl _ rfl _ (0, 0) K10.out hl0 ?_
  go_simp
  refine ldC rfl _ rfl _ rfl _ (0, 0) K22.out hl0 ?_
  go_simp
  go_wp2_with (go_at_call 11; refine hold_ ?_)
  intro _
  refine (HF.out _).mono ?_
  rintro e wz ⟨rfl, hb⟩
  have HBz := Lib.hid (belowS hb HB5.out)
  clear hb HB5
  go_wp2
  go_ret
  exact ⟨rfl, HBz.out⟩
 ·have b6 : (e1 == 6) = false := beq_eq_false_iff_ne.mpr h6
  have hE := HMO.out h6
  injection hE with h1 h2
  injection h2 with h2 h3
  injection h3 with h3 h4
  injection h4 with h4 h5
  subst h1
  subst h2
  subst h3
  subst h4
  subst h5
  clear h6 HMO
  have heq := fun w => eqB c2 hld2 w
  refine ldC rfl _ rfl _ rfl _ (0, 0) K10.out hl0 ?_
  go_simp
  refine ldC rfl _ rfl _ rfl _ (0, 0) K22.out hl0 ?_
  go_simp
  go_wp2_with ((with_reducible refine gate_dst (N := 115) rfl ?_); refine hold_ ?_)
  intro _
  refine ldCw (by go_simp) _ rfl _ rfl _ (0, 0) K14.out hld2 ?_
  go_simp
  refine ldCw (by go_simp) _ rfl _ rfl _ (0, 0) K18.out hld2 ?_
  go_simp
  go_wp2_with (go_at_call 14; refine hold_ ?_)
  intro _
  refine (Mm.Cells_calls p2 b2 n2 f2 w9 HM2.out (by omega)).mono ?_
  rintro e wA ⟨v4, l1, rfl, hrep, hlen, hown, -, hb⟩
  have HM3a := Lib.hid (HM3.out.below hb)
  have HBa := Lib.hid (belowS hb HB5.out)
  have HO := Lib.hid hown
  have HREP := Lib.hid hrep
  have hlen2 : l1.length ≤ 400 := by omega
  clear hb HM3 HM2 HB5 hown hrep hlen K10 K22 K14 K18 heq hneq
  go_wp2_with (go_at_call 14; refine hold_ ?_)
  intro _
  refine (Mm.Cells_calls p3 b3 n3 f2 wA HM3a.out (by omega)).mono ?_
  rintro e wB ⟨v5, l2, rfl, hrep2, hlen3, hown2, -, hb9⟩
  have heql : l2 = l1 := hrep2.unique HREP.out
  subst heql
  have hs9 := Mm.Same_calls w9.heap.size wA.heap.size v4 v5 l2 l2 wB (HO.out.below hb9) hown2 (by omega) (by omega)
  rw [decide_eq_true rfl] at hs9
  have HS9 := Lib.hid hs9
  have HBb := Lib.hid (belowS hb9 HBa.out)
  clear hs9 hrep2 hlen3 hown2 hb9 HM3a HO HBa HREP
  go_wp2_with (go_at_call 16; refine hold_ ?_)
  intro _
  refine HS9.out.mono ?_
  rintro e wC ⟨rfl, nd, rfl⟩
  have HBc := Lib.hid (belowS (PrintWords.Drawn0.below ⟨⟨nd, rfl⟩⟩) HBb.out)
  clear HS9 HBb
  generalize wB.drewN nd = wD at *
  go_wp2_with (go_at_call 11; refine hold_ ?_)
  intro _
  refine (HF.out _).mono ?_
  rintro e wE ⟨rfl, hb11⟩
  have HBe := Lib.hid (belowS hb11 HBc.out)
  clear hb11 HBc
  go_wp2
  go_ret
  exact ⟨rfl, HBe.out⟩
end Go.Proofs.Ytononmcodecmaaa.Cp
end
