import Derived.Test.YtekenddkoahjgaaVQx0
import Derived.Test.YtekenddkoahjgaaVQx30
import Derived.Test.YtekenddkoahjgaaVQx33
import Derived.Test.YtekenddkoahjgaaVQx35
namespace Go.Proofs.Ytekenddkoahjgaa.Q
open Go.RowKit Go.Proofs.YtekenddkoahjgaaW.PrintWords Go.Proofs.YtekenddkoahjgaaW.PrintLast Go.Proofs.YtekenddkoahjgaaW.PrintMore
attribute [local go_sem] max2_int min2_int max_two min_two max_three min_three max_four min_four   -- for this text's walks alone
attribute [local go_sem] imax_u32 imax_u8 isg_u32 isg_u8
set_option linter.unusedVariables false
set_option linter.unusedSimpArgs false
mutual
def whetstonelaw08_BlocksLoops.j0 : Nat → Int → List Int → Option (Bool)
 | 0, _, _ => none
 | k + 1, x3, x4 => (some (([x3, 1048691] : List Int) : List Int)).bind fun y449 => ((blocks_Find.f 4096 4096 y449 0 ([] : List Int)).bind fun bt453 => (if bt453.2 = 0 then (whetstonelaw08_BlocksLoops.j1 k x4 bt453.1 ((bt453.1.length : Int) != 2) 4096 4096 y449 0) else (whetstonelaw08_BlocksLoops.j1 k x4 bt453.1 true 4096 4096 y449 0)))
def whetstonelaw08_BlocksLoops.j1 : Nat → List Int → List (S40) → Bool → Int → Int → List Int → Int → Option (Bool)
 | 0, _, _, _, _, _, _, _ => none
 | k + 1, x4, x6, x30, x453000, x453001, x453002, x453003 => if x30 = true then (some false) else ((blocks_Next.f k x453000 x453001 x453002 x453003 x6 0).bind fun bt457 => ((blocks_Next.f k x453000 x453001 x453002 x453003 x6 1).bind fun bt461 => (if (bt457.1.length : Int) = (x4.length : Int) then (if (bt461.1.length : Int) = 0 then (if bt457.2 = true then (whetstonelaw08_BlocksLoops.j2 k x4 bt457.1 true) else (whetstonelaw08_BlocksLoops.j2 k x4 bt457.1 bt461.2)) else (whetstonelaw08_BlocksLoops.j2 k x4 bt457.1 true)) else (whetstonelaw08_BlocksLoops.j2 k x4 bt457.1 true))))
def whetstonelaw08_BlocksLoops.j2 : Nat → List Int → List Int → Bool → Option (Bool)
 | 0, _, _, _ => none
 | k + 1, x4, x8, x58 => if x58 = true then (some false) else (whetstonelaw08_BlocksLoops.l0 k x4 x8 0)
def whetstonelaw08_BlocksLoops.l0 : Nat → List Int → List Int → Int → Option (Bool)
 | 0, _, _, _ => none
 | k + 1, x4, x8, x12 => if x12 < (x8.length : Int) then (if 0 ≤ x12 then (if x12 < (x4.length : Int) then (if (rd x8 x12) = (rd x4 x12) then (whetstonelaw08_BlocksLoops.l0 k x4 x8 (wrap64 (x12 + 1))) else (some false)) else (none)) else (none)) else ((whetstonelaw08_fixed.f).bind fun t467 => (some t467))
end
def whetstonelaw08_BlocksLoops.f (k : Nat) (a0 : Bool) : Option (Bool) := if a0 = true then (whetstonelaw08_BlocksLoops.j0 k 99 (([0, 1] : List Int))) else (whetstonelaw08_BlocksLoops.j0 k 611 (([1] : List Int)))
theorem whetstonelaw08_BlocksLoops.mono_l : ∀ k, (∀ y0 y1, LeO (whetstonelaw08_BlocksLoops.j0 k y0 y1) (whetstonelaw08_BlocksLoops.j0 (k + 1) y0 y1)) ∧ (∀ y0 y1 y2 y3 y4 y5 y6, LeO (whetstonelaw08_BlocksLoops.j1 k y0 y1 y2 y3 y4 y5 y6) (whetstonelaw08_BlocksLoops.j1 (k + 1) y0 y1 y2 y3 y4 y5 y6)) ∧ (∀ y0 y1 y2, LeO (whetstonelaw08_BlocksLoops.j2 k y0 y1 y2) (whetstonelaw08_BlocksLoops.j2 (k + 1) y0 y1 y2)) ∧ (∀ y0 y1 y2, LeO (whetstonelaw08_BlocksLoops.l0 k y0 y1 y2) (whetstonelaw08_BlocksLoops.l0 (k + 1) y0 y1 y2))
 | 0 => ⟨fun _ _ r h => by simp [whetstonelaw08_BlocksLoops.j0] at h, fun _ _ _ _ _ _ _ r h => by simp [whetstonelaw08_BlocksLoops.j1] at h, fun _ _ _ r h => by simp [whetstonelaw08_BlocksLoops.j2] at h, fun _ _ _ r h => by simp [whetstonelaw08_BlocksLoops.l0] at h⟩
 | k + 1 => by
  obtain ⟨ih0, ih1, ih2, ih3⟩ := whetstonelaw08_BlocksLoops.mono_l k
  refine ⟨?_, ?_, ?_, ?_⟩
  ·intro y0 y1
   unfold whetstonelaw08_BlocksLoops.j0
   repeat' first
   | (with_reducible exact ih0 _ _)
   | (with_reducible exact ih1 _ _ _ _ _ _ _)
   | (with_reducible exact ih2 _ _ _)
   | (with_reducible exact ih3 _ _ _)
   | (with_reducible exact blocks_Next.mono _ _ _ _ _ _ _)
   | (with_reducible exact LeO.refl _)
   | (with_reducible exact LeO.none _)
   | (with_reducible refine LeO.ite ?_ ?_)
   | (with_reducible refine LeO.bind ?_ (fun _ => ?_))
   | exact ih0 _ _
   | exact ih1 _ _ _ _ _ _ _
   | exact ih2 _ _ _
   | exact ih3 _ _ _
   | exact blocks_Next.mono _ _ _ _ _ _ _
   | exact LeO.none _
   | refine LeO.ite ?_ ?_
   | refine LeO.bind ?_ (fun _ => ?_)
  ·intro y0 y1 y2 y3 y4 y5 y6
   unfold whetstonelaw08_BlocksLoops.j1
   repeat' first
   | (with_reducible exact ih0 _ _)
   | (with_reducible exact ih1 _ _ _ _ _ _ _)
   | (with_reducible exact ih2 _ _ _)
   | (with_reducible exact ih3 _ _ _)
   | (with_reducible exact blocks_Next.mono _ _ _ _ _ _ _)
   | (with_reducible exact LeO.refl _)
   | (with_reducible exact LeO.none _)
   | (with_reducible refine LeO.ite ?_ ?_)
   | (with_reducible refine LeO.bind ?_ (fun _ => ?_))
   | exact ih0 _ _
   | exact ih1 _ _ _ _ _ _ _
   | exact ih2 _ _ _
   | exact ih3 _ _ _
   | exact blocks_Next.mono _ _ _ _ _ _ _
   | exact LeO.none _
   | refine LeO.ite ?_ ?_
   | refine LeO.bind ?_ (fun _ => ?_)
  ·intro y0 y1 y2
   unfold whetstonelaw08_BlocksLoops.j2
   repeat' first
   | (with_reducible exact ih0 _ _)
   | (with_reducible exact ih1 _ _ _ _ _ _ _)
   | (with_reducible exact ih2 _ _ _)
   | (with_reducible exact ih3 _ _ _)
   | (with_reducible exact blocks_Next.mono _ _ _ _ _ _ _)
   | (with_reducible exact LeO.refl _)
   | (with_reducible exact LeO.none _)
   | (with_reducible refine LeO.ite ?_ ?_)
   | (with_reducible refine LeO.bind ?_ (fun _ => ?_))
   | exact ih0 _ _
   | exact ih1 _ _ _ _ _ _ _
   | exact ih2 _ _ _
   | exact ih3 _ _ _
   | exact blocks_Next.mono _ _ _ _ _ _ _
   | exact LeO.none _
   | refine LeO.ite ?_ ?_
   | refine LeO.bind ?_ (fun _ => ?_)
  ·intro y0 y1 y2
   unfold whetstonelaw08_BlocksLoops.l0
   repeat' first
   | (with_reducible exact ih0 _ _)
   | (with_reducible exact ih1 _ _ _ _ _ _ _)
   | (with_reducible exact ih2 _ _ _)
   | (with_reducible exact ih3 _ _ _)
   | (with_reducible exact blocks_Next.mono _ _ _ _ _ _ _)
   | (with_reducible exact LeO.refl _)
   | (with_reducible exact LeO.none _)
   | (with_reducible refine LeO.ite ?_ ?_)
   | (with_reducible refine LeO.bind ?_ (fun _ => ?_))
   | exact ih0 _ _
   | exact ih1 _ _ _ _ _ _ _
   | exact ih2 _ _ _
   | exact ih3 _ _ _
   | exact blocks_Next.mono _ _ _ _ _ _ _
   | exact LeO.none _
   | refine LeO.ite ?_ ?_
   | refine LeO.bind ?_ (fun _ => ?_)
theorem whetstonelaw08_BlocksLoops.mono : ∀ a0 k, LeO (whetstonelaw08_BlocksLoops.f k a0) (whetstonelaw08_BlocksLoops.f (k + 1) a0) := by
 intro a0 k
 obtain ⟨ih0, ih1, ih2, ih3⟩ := whetstonelaw08_BlocksLoops.mono_l k
 unfold whetstonelaw08_BlocksLoops.f
 repeat' first
   | (with_reducible exact ih0 _ _)
   | (with_reducible exact ih1 _ _ _ _ _ _ _)
   | (with_reducible exact ih2 _ _ _)
   | (with_reducible exact ih3 _ _ _)
   | (with_reducible exact blocks_Next.mono _ _ _ _ _ _ _)
   | (with_reducible exact LeO.refl _)
   | (with_reducible exact LeO.none _)
   | (with_reducible refine LeO.ite ?_ ?_)
   | (with_reducible refine LeO.bind ?_ (fun _ => ?_))
   | exact ih0 _ _
   | exact ih1 _ _ _ _ _ _ _
   | exact ih2 _ _ _
   | exact ih3 _ _ _
   | exact blocks_Next.mono _ _ _ _ _ _ _
   | exact LeO.none _
   | refine LeO.ite ?_ ?_
   | refine LeO.bind ?_ (fun _ => ?_)
set_option maxHeartbeats 8000000 in
set_option maxRecDepth 100000 in
theorem whetstonelaw08_BlocksLoops.calls (k : Nat) (a0 : Bool) (r : Bool) (w : World) (h : whetstonelaw08_BlocksLoops.f k a0 = some r) :
  Calls Try.prog 10 #[.bool a0] w fun e w' => e = .returned (.bool r) ∧ Below w.heap.size w w' := by
 have hu32 := Try.underlying32
 have HB := Aside0.mk (Below.refl w.heap.size w)
 have H : (if a0 = true then (whetstonelaw08_BlocksLoops.j0 k 99 (([0, 1] : List Int))) else (whetstonelaw08_BlocksLoops.j0 k 611 (([1] : List Int)))) = some r := h
 clear h
 obtain ⟨y443, hy443⟩ : ∃ y_ : List Int, y_ = (([1] : List Int)) := ⟨_, rfl⟩
 replace H : (if a0 = true then (whetstonelaw08_BlocksLoops.j0 k 99 (([0, 1] : List Int))) else (whetstonelaw08_BlocksLoops.j0 k 611 y443)) = some r := by first | (rw [hy443]; with_reducible exact H) | (have H2_ := (Option.bind_some _ _).symm.trans H; rw [hy443]; with_reducible exact H2_) | (have H2_ := (Option.bind_some _ _).symm.trans H; with_reducible exact H2_) | with_reducible exact H | (rw [hy443]; exact H) | exact H
 have Ny443 := Aside0.mk hy443
 clear hy443
 have HC2 := Aside0.mk H
 clear H
 go_enter Try.func10, Try.ntmps10
 go_upto_if 14 with (first | ((with_reducible refine gate_dst (N := 13) rfl ?_); (try (refine gate_guard (by rfl) ?_; dsimp only)); refine Kd.R_lit (Kd.int .i64) _ 3 ?hg (N := 13) ?hd (xs := ([1] : List Int)) (inner := [.int .i64 1]) (ok := fun _ => True) (okp := fun _ => True) ?hr ?hp (fun _ hk => hk) trivial (Below.refl _ _) (Nat.le_refl _) (by simp) ?_; (case hd => rfl); (case hg => rfl); (case hr => first | (go_simp; done) | (go_simp; rfl)); (case hp => exact (Reps.one (show Kd.M (Kd.int .i64) _ _ _ 1 [.int .i64 1] from rfl) (Reps.none _ _))); intro v444 w3 ho4 hb hg_ hnew_; clear hg_ hnew_; (first | rw [← Ny443.out] at ho4 | (simp only [Int.reduceToNat] at ho4; rw [← Ny443.out] at ho4)); have n0_ := Aside0.mk (Kd.R_lower ho4 (below_size (by repeat (first | (with_reducible first | exact HB.out | apply below_alloc | apply pw_below_drewN | apply below_drew1) | exact HB.out)))); have n1_ := Aside0.mk (below_step (by repeat (first | (with_reducible first | exact HB.out | apply below_alloc | apply pw_below_drewN | apply below_drew1) | exact HB.out)) hb); clear HB; have HO445 := n0_; have HB := n1_; clear n0_ n1_; clear hb ho4))
 repeat (go_quiet (first | ((with_reducible refine gate_dst (N := 13) rfl ?_); (try (refine gate_guard (by rfl) ?_; dsimp only)); refine Kd.R_lit (Kd.int .i64) _ 3 ?hg (N := 13) ?hd (xs := ([1] : List Int)) (inner := [.int .i64 1]) (ok := fun _ => True) (okp := fun _ => True) ?hr ?hp (fun _ hk => hk) trivial (Below.refl _ _) (Nat.le_refl _) (by simp) ?_; (case hd => rfl); (case hg => rfl); (case hr => first | (go_simp; done) | (go_simp; rfl)); (case hp => exact (Reps.one (show Kd.M (Kd.int .i64) _ _ _ 1 [.int .i64 1] from rfl) (Reps.none _ _))); intro v444 w3 ho4 hb hg_ hnew_; clear hg_ hnew_; (first | rw [← Ny443.out] at ho4 | (simp only [Int.reduceToNat] at ho4; rw [← Ny443.out] at ho4)); have n0_ := Aside0.mk (Kd.R_lower ho4 (below_size (by repeat (first | (with_reducible first | exact HB.out | apply below_alloc | apply pw_below_drewN | apply below_drew1) | exact HB.out)))); have n1_ := Aside0.mk (below_step (by repeat (first | (with_reducible first | exact HB.out | apply below_alloc | apply pw_below_drewN | apply below_drew1) | exact HB.out)) hb); clear HB; have HO445 := n0_; have HB := n1_; clear n0_ n1_; clear hb ho4)); go_upto_if 14 with (first | ((with_reducible refine gate_dst (N := 13) rfl ?_); (try (refine gate_guard (by rfl) ?_; dsimp only)); refine Kd.R_lit (Kd.int .i64) _ 3 ?hg (N := 13) ?hd (xs := ([1] : List Int)) (inner := [.int .i64 1]) (ok := fun _ => True) (okp := fun _ => True) ?hr ?hp (fun _ hk => hk) trivial (Below.refl _ _) (Nat.le_refl _) (by simp) ?_; (case hd => rfl); (case hg => rfl); (case hr => first | (go_simp; done) | (go_simp; rfl)); (case hp => exact (Reps.one (show Kd.M (Kd.int .i64) _ _ _ 1 [.int .i64 1] from rfl) (Reps.none _ _))); intro v444 w3 ho4 hb hg_ hnew_; clear hg_ hnew_; (first | rw [← Ny443.out] at ho4 | (simp only [Int.reduceToNat] at ho4; rw [← Ny443.out] at ho4)); have n0_ := Aside0.mk (Kd.R_lower ho4 (below_size (by repeat (first | (with_reducible first | exact HB.out | apply below_alloc | apply pw_below_drewN | apply below_drew1) | exact HB.out)))); have n1_ := Aside0.mk (below_step (by repeat (first | (with_reducible first | exact HB.out | apply below_alloc | apply pw_below_drewN | apply below_drew1) | exact HB.out)) hb); clear HB; have HO445 := n0_; have HB := n1_; clear n0_ n1_; clear hb ho4)))
 (try simp only [Act.put, List.setIfInBounds_toArray, List.set_cons_zero, List.set_cons_succ])
 go_cut [3, 4] (fun v3 v4 wc => ∃ (kq : Nat) (x3_1 : Int) (x4_1 : List Int), v3 = .int .u32 x3_1 ∧ Aside0 (whetstonelaw08_BlocksLoops.j0 kq x3_1 x4_1 = some r) ∧ Aside0 (kq ≤ k) ∧ Aside0 (Kd.R (Kd.int .i64) 3 wc w.heap.size (fun _ => True) v4 x4_1) ∧ Aside0 (Below w.heap.size w wc))
 case first =>
  have H := HC2.out
  clear HC2
  by_cases c5 : a0 = true
  ·subst c5
   have H1 : (whetstonelaw08_BlocksLoops.j0 k 99 (([0, 1] : List Int))) = some r := by rw [if_pos rfl] at H; exact H
   clear H
   have H := H1
   clear H1
   obtain ⟨y446, hy446⟩ : ∃ y_ : List Int, y_ = (([0, 1] : List Int)) := ⟨_, rfl⟩
   replace H : (whetstonelaw08_BlocksLoops.j0 k 99 y446) = some r := by first | (rw [hy446]; with_reducible exact H) | (have H2_ := (Option.bind_some _ _).symm.trans H; rw [hy446]; with_reducible exact H2_) | (have H2_ := (Option.bind_some _ _).symm.trans H; with_reducible exact H2_) | with_reducible exact H | (rw [hy446]; exact H) | exact H
   have Ny446 := Aside0.mk hy446
   clear hy446
   have H' := Aside0.mk H
   clear H
   go_wp2_with (first | ((with_reducible refine gate_dst (N := 15) rfl ?_); (try (refine gate_guard (by rfl) ?_; dsimp only)); refine Kd.R_lit (Kd.int .i64) _ 3 ?hg (N := 15) ?hd (xs := ([0, 1] : List Int)) (inner := [.int .i64 0, .int .i64 1]) (ok := fun _ => True) (okp := fun _ => True) ?hr ?hp (fun _ hk => hk) trivial (Below.refl _ _) (Nat.le_refl _) (by simp) ?_; (case hd => rfl); (case hg => rfl); (case hr => first | (go_simp; done) | (go_simp; rfl)); (case hp => exact (Reps.one (show Kd.M (Kd.int .i64) _ _ _ 0 [.int .i64 0] from rfl) (Reps.one (show Kd.M (Kd.int .i64) _ _ _ 1 [.int .i64 1] from rfl) (Reps.none _ _)))); intro v447 w6 ho7 hb hg_ hnew_; clear hg_ hnew_; (first | rw [← Ny446.out] at ho7 | (simp only [Int.reduceToNat] at ho7; rw [← Ny446.out] at ho7)); have n0_ := Aside0.mk (Kd.R_elder' (by (with_reducible repeat (first | apply Kd.R_alloc | apply Kd.R_drewN | apply Kd.R_drew)); exact HO445.out) (Kd.R_base ho7) hb); have n1_ := Aside0.mk (Kd.R_lower (Kd.R_new' ho7 (Kd.R_lt (by (with_reducible repeat (first | apply Kd.R_alloc | apply Kd.R_drewN | apply Kd.R_drew)); exact HO445.out))) (below_size (by repeat (first | (with_reducible first | exact HB.out | apply below_alloc | apply pw_below_drewN | apply below_drew1) | exact HB.out)))); have n2_ := Aside0.mk (below_step (by repeat (first | (with_reducible first | exact HB.out | apply below_alloc | apply pw_below_drewN | apply below_drew1) | exact HB.out)) hb); clear HO445; clear HB; have HO445 := n0_; have HO448 := n1_; have HB := n2_; clear n0_ n1_ n2_; clear hb ho7))
   repeat (go_quiet (first | ((with_reducible refine gate_dst (N := 15) rfl ?_); (try (refine gate_guard (by rfl) ?_; dsimp only)); refine Kd.R_lit (Kd.int .i64) _ 3 ?hg (N := 15) ?hd (xs := ([0, 1] : List Int)) (inner := [.int .i64 0, .int .i64 1]) (ok := fun _ => True) (okp := fun _ => True) ?hr ?hp (fun _ hk => hk) trivial (Below.refl _ _) (Nat.le_refl _) (by simp) ?_; (case hd => rfl); (case hg => rfl); (case hr => first | (go_simp; done) | (go_simp; rfl)); (case hp => exact (Reps.one (show Kd.M (Kd.int .i64) _ _ _ 0 [.int .i64 0] from rfl) (Reps.one (show Kd.M (Kd.int .i64) _ _ _ 1 [.int .i64 1] from rfl) (Reps.none _ _)))); intro v447 w6 ho7 hb hg_ hnew_; clear hg_ hnew_; (first | rw [← Ny446.out] at ho7 | (simp only [Int.reduceToNat] at ho7; rw [← Ny446.out] at ho7)); have n0_ := Aside0.mk (Kd.R_elder' (by (with_reducible repeat (first | apply Kd.R_alloc | apply Kd.R_drewN | apply Kd.R_drew)); exact HO445.out) (Kd.R_base ho7) hb); have n1_ := Aside0.mk (Kd.R_lower (Kd.R_new' ho7 (Kd.R_lt (by (with_reducible repeat (first | apply Kd.R_alloc | apply Kd.R_drewN | apply Kd.R_drew)); exact HO445.out))) (below_size (by repeat (first | (with_reducible first | exact HB.out | apply below_alloc | apply pw_below_drewN | apply below_drew1) | exact HB.out)))); have n2_ := Aside0.mk (below_step (by repeat (first | (with_reducible first | exact HB.out | apply below_alloc | apply pw_below_drewN | apply below_drew1) | exact HB.out)) hb); clear HO445; clear HB; have HO445 := n0_; have HO448 := n1_; have HB := n2_; clear n0_ n1_ n2_; clear hb ho7)); try go_wp2_with (first | ((with_reducible refine gate_dst (N := 15) rfl ?_); (try (refine gate_guard (by rfl) ?_; dsimp only)); refine Kd.R_lit (Kd.int .i64) _ 3 ?hg (N := 15) ?hd (xs := ([0, 1] : List Int)) (inner := [.int .i64 0, .int .i64 1]) (ok := fun _ => True) (okp := fun _ => True) ?hr ?hp (fun _ hk => hk) trivial (Below.refl _ _) (Nat.le_refl _) (by simp) ?_; (case hd => rfl); (case hg => rfl); (case hr => first | (go_simp; done) | (go_simp; rfl)); (case hp => exact (Reps.one (show Kd.M (Kd.int .i64) _ _ _ 0 [.int .i64 0] from rfl) (Reps.one (show Kd.M (Kd.int .i64) _ _ _ 1 [.int .i64 1] from rfl) (Reps.none _ _)))); intro v447 w6 ho7 hb hg_ hnew_; clear hg_ hnew_; (first | rw [← Ny446.out] at ho7 | (simp only [Int.reduceToNat] at ho7; rw [← Ny446.out] at ho7)); have n0_ := Aside0.mk (Kd.R_elder' (by (with_reducible repeat (first | apply Kd.R_alloc | apply Kd.R_drewN | apply Kd.R_drew)); exact HO445.out) (Kd.R_base ho7) hb); have n1_ := Aside0.mk (Kd.R_lower (Kd.R_new' ho7 (Kd.R_lt (by (with_reducible repeat (first | apply Kd.R_alloc | apply Kd.R_drewN | apply Kd.R_drew)); exact HO445.out))) (below_size (by repeat (first | (with_reducible first | exact HB.out | apply below_alloc | apply pw_below_drewN | apply below_drew1) | exact HB.out)))); have n2_ := Aside0.mk (below_step (by repeat (first | (with_reducible first | exact HB.out | apply below_alloc | apply pw_below_drewN | apply below_drew1) | exact HB.out)) hb); clear HO445; clear HB; have HO445 := n0_; have HO448 := n1_; have HB := n2_; clear n0_ n1_ n2_; clear hb ho7)))
   go_meet
   case rel => exact ⟨_, (99), (y446), (by first | rfl | (simp; done) | (simp [*]; done)), H', ⟨by first | omega | exact Nat.le_refl _⟩, ⟨by (with_reducible repeat (first | apply Kd.R_alloc | apply Kd.R_drewN | apply Kd.R_drew)); exact Kd.R_mono HO448.out (fun _ hk => trivial)⟩, ⟨by repeat (first | (with_reducible first | exact HB.out | apply below_alloc | apply pw_below_drewN | apply below_drew1) | exact HB.out)⟩⟩
  ·replace c5 := Bool.eq_false_iff.mpr c5
   subst c5
   have H1 : (whetstonelaw08_BlocksLoops.j0 k 611 y443) = some r := by rw [if_neg (show ¬ (false = true) by decide)] at H; exact H
   clear H
   have H := H1
   clear H1
   have H' := Aside0.mk H
   clear H
   go_wp2
   repeat (go_quiet (fail); try go_wp2)
   go_meet
   case rel => exact ⟨_, (611), (y443), (by first | rfl | (simp; done) | (simp [*]; done)), H', ⟨by first | omega | exact Nat.le_refl _⟩, ⟨by (with_reducible repeat (first | apply Kd.R_alloc | apply Kd.R_drewN | apply Kd.R_drew)); exact HO445.out⟩, ⟨by repeat (first | (with_reducible first | exact HB.out | apply below_alloc | apply pw_below_drewN | apply below_drew1) | exact HB.out)⟩⟩
 case rest =>
  clear HC2
  try clear c1
  try clear p2
  try clear c5
  obtain ⟨kq, x3_1, x4_1, rfl, HA, HJ1, HO_4, HB⟩ := hcut
  cases kq with
  | zero => exact absurd HA.out (by simp [whetstonelaw08_BlocksLoops.j0])
  | succ kj1 =>
   have H := HA.out
   clear HA
   simp only [whetstonelaw08_BlocksLoops.j0] at H
   obtain ⟨y449, hy449⟩ : ∃ y_ : List Int, y_ = (([x3_1, 1048691] : List Int)) := ⟨_, rfl⟩
   replace H : ((blocks_Find.f 4096 4096 y449 0 ([] : List Int)).bind fun bt453 => (if bt453.2 = 0 then (whetstonelaw08_BlocksLoops.j1 kj1 x4_1 bt453.1 ((bt453.1.length : Int) != 2) 4096 4096 y449 0) else (whetstonelaw08_BlocksLoops.j1 kj1 x4_1 bt453.1 true 4096 4096 y449 0))) = some r := by first | (rw [hy449]; with_reducible exact H) | (have H2_ := (Option.bind_some _ _).symm.trans H; rw [hy449]; with_reducible exact H2_) | (have H2_ := (Option.bind_some _ _).symm.trans H; with_reducible exact H2_) | with_reducible exact H | (rw [hy449]; exact H) | exact H
   have Ny449 := Aside0.mk hy449
   clear hy449
   replace H := Option.bind_eq_some_iff.mp H
   obtain ⟨⟨t453, t456⟩, A80, H⟩ := H
   replace H : (if t456 = 0 then (whetstonelaw08_BlocksLoops.j1 kj1 x4_1 t453 ((t453.length : Int) != 2) 4096 4096 y449 0) else (whetstonelaw08_BlocksLoops.j1 kj1 x4_1 t453 true 4096 4096 y449 0)) = some r := H
   have A8 := Aside0.mk A80
   clear A80
   have HC9 := Aside0.mk H
   clear H
   go_upto_region 8 with (first | ((with_reducible refine gate_dst (N := 17) rfl ?_); (try (refine gate_guard (by rfl) ?_; dsimp only)); refine Kd.R_lit (Kd.int .u32) _ 24 ?hg (N := 17) ?hd (xs := ([x3_1, 1048691] : List Int)) (inner := [.int .u32 x3_1, .int .u32 1048691]) (ok := fun _ => True) (okp := fun _ => True) ?hr ?hp (fun _ hk => hk) trivial (Below.refl _ _) (Nat.le_refl _) (by simp) ?_; (case hd => rfl); (case hg => rfl); (case hr => first | (go_simp; done) | (go_simp; rfl)); (case hp => exact (Reps.one (show Kd.M (Kd.int .u32) _ _ _ x3_1 [.int .u32 x3_1] from rfl) (Reps.one (show Kd.M (Kd.int .u32) _ _ _ 1048691 [.int .u32 1048691] from rfl) (Reps.none _ _)))); intro v450 w10 ho11 hb hg_ hnew_; clear hg_ hnew_; (first | rw [← Ny449.out] at ho11 | (simp only [Int.reduceToNat] at ho11; rw [← Ny449.out] at ho11)); have n0_ := Aside0.mk (Kd.R_below (by (with_reducible repeat (first | apply Kd.R_alloc | apply Kd.R_drewN | apply Kd.R_drew)); exact HO_4.out) hb); have n1_ := Aside0.mk (Kd.R_lower ho11 (below_size (by repeat (first | (with_reducible first | exact HB.out | apply below_alloc | apply pw_below_drewN | apply below_drew1) | exact HB.out)))); have n2_ := Aside0.mk (below_step (by repeat (first | (with_reducible first | exact HB.out | apply below_alloc | apply pw_below_drewN | apply below_drew1) | exact HB.out)) hb); clear HO_4; clear HB; have HO_4 := n0_; have HO451 := n1_; have HB := n2_; clear n0_ n1_ n2_; clear hb ho11; obtain ⟨Ao12, co12, eo12⟩ := Kd.R_slice HO451.out; subst eo12) | ((with_reducible refine gate_dst (N := 5) rfl ?_); (try (refine gate_guard (by rfl) ?_; dsimp only)); refine box_event ?hg (N := 5) ?hd (cs := #[.int .u32 0, .int .u32 0, .slice none 0 0, .int .i64 0]) (t := 32) ?hr ?_; (case hd => rfl); (case hg => rfl); (case hr => first | (go_simp; done) | (go_simp; rfl)); intro gb452 hg w13 hbox hb; have n0_ := Aside0.mk (Kd.R_below (by (with_reducible repeat (first | apply Kd.R_alloc | apply Kd.R_drewN | apply Kd.R_drew)); exact HO_4.out) hb); have n1_ := Aside0.mk (Kd.R_below (by (with_reducible repeat (first | apply Kd.R_alloc | apply Kd.R_drewN | apply Kd.R_drew)); exact HO451.out) hb); have n2_ := Aside0.mk (below_step (by repeat (first | (with_reducible first | exact HB.out | apply below_alloc | apply pw_below_drewN | apply below_drew1) | exact HB.out)) hb); have n3_ := Aside0.mk (hbox); have n4_ := Aside0.mk ((by rw [hg]; exact (below_size (by repeat (first | (with_reducible first | exact HB.out | apply below_alloc | apply pw_below_drewN | apply below_drew1) | exact HB.out))) : w.heap.size ≤ gb452)); have n5_ := Aside0.mk ((by rw [hg]; exact (below_size (by repeat (first | (with_reducible first | exact HB.out | apply below_alloc | apply pw_below_drewN | apply below_drew1) | exact HB.out))) : w.heap.size ≤ gb452)); clear HO_4; clear HO451; clear HB; have HO_4 := n0_; have HO451 := n1_; have HB := n2_; have BK452 := n3_; have GW452 := n4_; have GE452 := n5_; clear n0_ n1_ n2_ n3_ n4_ n5_; clear hb hbox hg; have hcz14_0 : w13.cell? ⟨gb452, 0, none⟩ = some (.int .u32 0) := (blk_cell BK452.out 0).trans rfl; have hcz14_1 : w13.cell? ⟨gb452, 1, none⟩ = some (.int .u32 0) := (blk_cell BK452.out 1).trans rfl; have hcz14_2 : w13.cell? ⟨gb452, 2, none⟩ = some (.slice none 0 0) := (blk_cell BK452.out 2).trans rfl; have hcz14_3 : w13.cell? ⟨gb452, 3, none⟩ = some (.int .i64 0) := (blk_cell BK452.out 3).trans rfl; have hfz14_0 := blk_frozen BK452.out 0; have hfz14_1 := blk_frozen BK452.out 1; have hfz14_2 := blk_frozen BK452.out 2; have hfz14_3 := blk_frozen BK452.out 3) | (go_at_call 19; (refine (blocks_Find.calls 4096 4096 _ _ y449 0 _ _ ([] : List Int) t453 t456 _ ?side1 ?side2 ?side3 ?side4 A8.out).mono ?_); (case side1 => refine (Kd.R_reads' (e := 24) (base := w.heap.size) (ok := fun k_ => True) (n := y449.length) (c := co12) ?_).2.2; exact (by (with_reducible repeat (first | apply Kd.R_alloc | apply Kd.R_drewN | apply Kd.R_drew)); exact (Kd.R_mono (Kd.R_far (p := ⟨gb452, 3, none⟩) (Kd.R_far (p := ⟨gb452, 2, none⟩) (Kd.R_far (p := ⟨gb452, 1, none⟩) (Kd.R_far (p := ⟨gb452, 0, none⟩) (Kd.R_types HO451.out BK452.out (by decide)) (fun _ hk => hk.2) (.int .u32 4096)) (fun _ hk => hk.2) (.int .u32 4096)) (fun _ hk => hk.2) (.slice Ao12 y449.length co12)) (fun _ hk => hk.2) (.int .i64 0)) (fun _ h_ => h_.1)))); (case side2 => exact (Kd.R_reads' HO451.out).2.1); (case side3 => exact Kd.C_nil _ _); (case side4 => exact Nat.le_refl _); rintro e w15 ⟨v454, rfl, ho0, hb⟩; have n0_ := Aside0.mk (Kd.R_below (by (with_reducible repeat (first | apply Kd.R_alloc | apply Kd.R_drewN | apply Kd.R_drew)); exact (Kd.R_mono (Kd.R_far (p := ⟨gb452, 3, none⟩) (Kd.R_far (p := ⟨gb452, 2, none⟩) (Kd.R_far (p := ⟨gb452, 1, none⟩) (Kd.R_far (p := ⟨gb452, 0, none⟩) (Kd.R_types HO_4.out BK452.out (by decide)) (fun _ hk => hk.2) (.int .u32 4096)) (fun _ hk => hk.2) (.int .u32 4096)) (fun _ hk => hk.2) (.slice Ao12 y449.length co12)) (fun _ hk => hk.2) (.int .i64 0)) (fun _ h_ => h_.1))) hb); have n1_ := Aside0.mk (Kd.R_below (by (with_reducible repeat (first | apply Kd.R_alloc | apply Kd.R_drewN | apply Kd.R_drew)); exact (Kd.R_mono (Kd.R_far (p := ⟨gb452, 3, none⟩) (Kd.R_far (p := ⟨gb452, 2, none⟩) (Kd.R_far (p := ⟨gb452, 1, none⟩) (Kd.R_far (p := ⟨gb452, 0, none⟩) (Kd.R_types HO451.out BK452.out (by decide)) (fun _ hk => hk.2) (.int .u32 4096)) (fun _ hk => hk.2) (.int .u32 4096)) (fun _ hk => hk.2) (.slice Ao12 y449.length co12)) (fun _ hk => hk.2) (.int .i64 0)) (fun _ h_ => h_.1))) hb); have n2_ := Aside0.mk (Kd.R_lower ho0 (below_size (by repeat (first | (with_reducible first | exact HB.out | apply below_alloc | apply pw_below_drewN | apply below_drew1 | refine below_set ?_ GE452.out) | exact HB.out)))); have n3_ := Aside0.mk (blk_below (g := gb452) (o := .cells #[.int .u32 4096, .int .u32 4096, .slice Ao12 y449.length co12, .int .i64 0] 32 (0, 0)) (by (with_reducible repeat (first | refine blk_drewN ?_ _ | refine blk_drew ?_ | refine blk_alloc ?_ _)); refine blk_put (cs := #[.int .u32 4096, .int .u32 4096, .slice Ao12 y449.length co12, .int .i64 0]) ?_ 3 _ rfl; (with_reducible repeat (first | refine blk_drewN ?_ _ | refine blk_drew ?_ | refine blk_alloc ?_ _)); refine blk_put (cs := #[.int .u32 4096, .int .u32 4096, .slice none 0 0, .int .i64 0]) ?_ 2 _ rfl; (with_reducible repeat (first | refine blk_drewN ?_ _ | refine blk_drew ?_ | refine blk_alloc ?_ _)); refine blk_put (cs := #[.int .u32 4096, .int .u32 0, .slice none 0 0, .int .i64 0]) ?_ 1 _ rfl; (with_reducible repeat (first | refine blk_drewN ?_ _ | refine blk_drew ?_ | refine blk_alloc ?_ _)); refine blk_put (cs := #[.int .u32 0, .int .u32 0, .slice none 0 0, .int .i64 0]) ?_ 0 _ rfl; (with_reducible repeat (first | refine blk_drewN ?_ _ | refine blk_drew ?_ | refine blk_alloc ?_ _)); exact BK452.out) hb); have n4_ := Aside0.mk (below_step (by repeat (first | (with_reducible first | exact HB.out | apply below_alloc | apply pw_below_drewN | apply below_drew1 | refine below_set ?_ GE452.out) | exact HB.out)) hb); clear HO_4; clear HO451; clear BK452; clear HB; have HO_4 := n0_; have HO451 := n1_; have HO455 := n2_; have BK452 := n3_; have HB := n4_; clear n0_ n1_ n2_ n3_ n4_; (try clear hb); (try clear hb2); (try clear hk); (try clear hi); (try clear ho0)))
   repeat (go_quiet (first | ((with_reducible refine gate_dst (N := 17) rfl ?_); (try (refine gate_guard (by rfl) ?_; dsimp only)); refine Kd.R_lit (Kd.int .u32) _ 24 ?hg (N := 17) ?hd (xs := ([x3_1, 1048691] : List Int)) (inner := [.int .u32 x3_1, .int .u32 1048691]) (ok := fun _ => True) (okp := fun _ => True) ?hr ?hp (fun _ hk => hk) trivial (Below.refl _ _) (Nat.le_refl _) (by simp) ?_; (case hd => rfl); (case hg => rfl); (case hr => first | (go_simp; done) | (go_simp; rfl)); (case hp => exact (Reps.one (show Kd.M (Kd.int .u32) _ _ _ x3_1 [.int .u32 x3_1] from rfl) (Reps.one (show Kd.M (Kd.int .u32) _ _ _ 1048691 [.int .u32 1048691] from rfl) (Reps.none _ _)))); intro v450 w10 ho11 hb hg_ hnew_; clear hg_ hnew_; (first | rw [← Ny449.out] at ho11 | (simp only [Int.reduceToNat] at ho11; rw [← Ny449.out] at ho11)); have n0_ := Aside0.mk (Kd.R_below (by (with_reducible repeat (first | apply Kd.R_alloc | apply Kd.R_drewN | apply Kd.R_drew)); exact HO_4.out) hb); have n1_ := Aside0.mk (Kd.R_lower ho11 (below_size (by repeat (first | (with_reducible first | exact HB.out | apply below_alloc | apply pw_below_drewN | apply below_drew1) | exact HB.out)))); have n2_ := Aside0.mk (below_step (by repeat (first | (with_reducible first | exact HB.out | apply below_alloc | apply pw_below_drewN | apply below_drew1) | exact HB.out)) hb); clear HO_4; clear HB; have HO_4 := n0_; have HO451 := n1_; have HB := n2_; clear n0_ n1_ n2_; clear hb ho11; obtain ⟨Ao12, co12, eo12⟩ := Kd.R_slice HO451.out; subst eo12) | ((with_reducible refine gate_dst (N := 5) rfl ?_); (try (refine gate_guard (by rfl) ?_; dsimp only)); refine box_event ?hg (N := 5) ?hd (cs := #[.int .u32 0, .int .u32 0, .slice none 0 0, .int .i64 0]) (t := 32) ?hr ?_; (case hd => rfl); (case hg => rfl); (case hr => first | (go_simp; done) | (go_simp; rfl)); intro gb452 hg w13 hbox hb; have n0_ := Aside0.mk (Kd.R_below (by (with_reducible repeat (first | apply Kd.R_alloc | apply Kd.R_drewN | apply Kd.R_drew)); exact HO_4.out) hb); have n1_ := Aside0.mk (Kd.R_below (by (with_reducible repeat (first | apply Kd.R_alloc | apply Kd.R_drewN | apply Kd.R_drew)); exact HO451.out) hb); have n2_ := Aside0.mk (below_step (by repeat (first | (with_reducible first | exact HB.out | apply below_alloc | apply pw_below_drewN | apply below_drew1) | exact HB.out)) hb); have n3_ := Aside0.mk (hbox); have n4_ := Aside0.mk ((by rw [hg]; exact (below_size (by repeat (first | (with_reducible first | exact HB.out | apply below_alloc | apply pw_below_drewN | apply below_drew1) | exact HB.out))) : w.heap.size ≤ gb452)); have n5_ := Aside0.mk ((by rw [hg]; exact (below_size (by repeat (first | (with_reducible first | exact HB.out | apply below_alloc | apply pw_below_drewN | apply below_drew1) | exact HB.out))) : w.heap.size ≤ gb452)); clear HO_4; clear HO451; clear HB; have HO_4 := n0_; have HO451 := n1_; have HB := n2_; have BK452 := n3_; have GW452 := n4_; have GE452 := n5_; clear n0_ n1_ n2_ n3_ n4_ n5_; clear hb hbox hg; have hcz14_0 : w13.cell? ⟨gb452, 0, none⟩ = some (.int .u32 0) := (blk_cell BK452.out 0).trans rfl; have hcz14_1 : w13.cell? ⟨gb452, 1, none⟩ = some (.int .u32 0) := (blk_cell BK452.out 1).trans rfl; have hcz14_2 : w13.cell? ⟨gb452, 2, none⟩ = some (.slice none 0 0) := (blk_cell BK452.out 2).trans rfl; have hcz14_3 : w13.cell? ⟨gb452, 3, none⟩ = some (.int .i64 0) := (blk_cell BK452.out 3).trans rfl; have hfz14_0 := blk_frozen BK452.out 0; have hfz14_1 := blk_frozen BK452.out 1; have hfz14_2 := blk_frozen BK452.out 2; have hfz14_3 := blk_frozen BK452.out 3) | (go_at_call 19; (refine (blocks_Find.calls 4096 4096 _ _ y449 0 _ _ ([] : List Int) t453 t456 _ ?side1 ?side2 ?side3 ?side4 A8.out).mono ?_); (case side1 => refine (Kd.R_reads' (e := 24) (base := w.heap.size) (ok := fun k_ => True) (n := y449.length) (c := co12) ?_).2.2; exact (by (with_reducible repeat (first | apply Kd.R_alloc | apply Kd.R_drewN | apply Kd.R_drew)); exact (Kd.R_mono (Kd.R_far (p := ⟨gb452, 3, none⟩) (Kd.R_far (p := ⟨gb452, 2, none⟩) (Kd.R_far (p := ⟨gb452, 1, none⟩) (Kd.R_far (p := ⟨gb452, 0, none⟩) (Kd.R_types HO451.out BK452.out (by decide)) (fun _ hk => hk.2) (.int .u32 4096)) (fun _ hk => hk.2) (.int .u32 4096)) (fun _ hk => hk.2) (.slice Ao12 y449.length co12)) (fun _ hk => hk.2) (.int .i64 0)) (fun _ h_ => h_.1)))); (case side2 => exact (Kd.R_reads' HO451.out).2.1); (case side3 => exact Kd.C_nil _ _); (case side4 => exact Nat.le_refl _); rintro e w15 ⟨v454, rfl, ho0, hb⟩; have n0_ := Aside0.mk (Kd.R_below (by (with_reducible repeat (first | apply Kd.R_alloc | apply Kd.R_drewN | apply Kd.R_drew)); exact (Kd.R_mono (Kd.R_far (p := ⟨gb452, 3, none⟩) (Kd.R_far (p := ⟨gb452, 2, none⟩) (Kd.R_far (p := ⟨gb452, 1, none⟩) (Kd.R_far (p := ⟨gb452, 0, none⟩) (Kd.R_types HO_4.out BK452.out (by decide)) (fun _ hk => hk.2) (.int .u32 4096)) (fun _ hk => hk.2) (.int .u32 4096)) (fun _ hk => hk.2) (.slice Ao12 y449.length co12)) (fun _ hk => hk.2) (.int .i64 0)) (fun _ h_ => h_.1))) hb); have n1_ := Aside0.mk (Kd.R_below (by (with_reducible repeat (first | apply Kd.R_alloc | apply Kd.R_drewN | apply Kd.R_drew)); exact (Kd.R_mono (Kd.R_far (p := ⟨gb452, 3, none⟩) (Kd.R_far (p := ⟨gb452, 2, none⟩) (Kd.R_far (p := ⟨gb452, 1, none⟩) (Kd.R_far (p := ⟨gb452, 0, none⟩) (Kd.R_types HO451.out BK452.out (by decide)) (fun _ hk => hk.2) (.int .u32 4096)) (fun _ hk => hk.2) (.int .u32 4096)) (fun _ hk => hk.2) (.slice Ao12 y449.length co12)) (fun _ hk => hk.2) (.int .i64 0)) (fun _ h_ => h_.1))) hb); have n2_ := Aside0.mk (Kd.R_lower ho0 (below_size (by repeat (first | (with_reducible first | exact HB.out | apply below_alloc | apply pw_below_drewN | apply below_drew1 | refine below_set ?_ GE452.out) | exact HB.out)))); have n3_ := Aside0.mk (blk_below (g := gb452) (o := .cells #[.int .u32 4096, .int .u32 4096, .slice Ao12 y449.length co12, .int .i64 0] 32 (0, 0)) (by (with_reducible repeat (first | refine blk_drewN ?_ _ | refine blk_drew ?_ | refine blk_alloc ?_ _)); refine blk_put (cs := #[.int .u32 4096, .int .u32 4096, .slice Ao12 y449.length co12, .int .i64 0]) ?_ 3 _ rfl; (with_reducible repeat (first | refine blk_drewN ?_ _ | refine blk_drew ?_ | refine blk_alloc ?_ _)); refine blk_put (cs := #[.int .u32 4096, .int .u32 4096, .slice none 0 0, .int .i64 0]) ?_ 2 _ rfl; (with_reducible repeat (first | refine blk_drewN ?_ _ | refine blk_drew ?_ | refine blk_alloc ?_ _)); refine blk_put (cs := #[.int .u32 4096, .int .u32 0, .slice none 0 0, .int .i64 0]) ?_ 1 _ rfl; (with_reducible repeat (first | refine blk_drewN ?_ _ | refine blk_drew ?_ | refine blk_alloc ?_ _)); refine blk_put (cs := #[.int .u32 0, .int .u32 0, .slice none 0 0, .int .i64 0]) ?_ 0 _ rfl; (with_reducible repeat (first | refine blk_drewN ?_ _ | refine blk_drew ?_ | refine blk_alloc ?_ _)); exact BK452.out) hb); have n4_ := Aside0.mk (below_step (by repeat (first | (with_reducible first | exact HB.out | apply below_alloc | apply pw_below_drewN | apply below_drew1 | refine below_set ?_ GE452.out) | exact HB.out)) hb); clear HO_4; clear HO451; clear BK452; clear HB; have HO_4 := n0_; have HO451 := n1_; have HO455 := n2_; have BK452 := n3_; have HB := n4_; clear n0_ n1_ n2_ n3_ n4_; (try clear hb); (try clear hb2); (try clear hk); (try clear hi); (try clear ho0))); go_upto_region 8 with (first | ((with_reducible refine gate_dst (N := 17) rfl ?_); (try (refine gate_guard (by rfl) ?_; dsimp only)); refine Kd.R_lit (Kd.int .u32) _ 24 ?hg (N := 17) ?hd (xs := ([x3_1, 1048691] : List Int)) (inner := [.int .u32 x3_1, .int .u32 1048691]) (ok := fun _ => True) (okp := fun _ => True) ?hr ?hp (fun _ hk => hk) trivial (Below.refl _ _) (Nat.le_refl _) (by simp) ?_; (case hd => rfl); (case hg => rfl); (case hr => first | (go_simp; done) | (go_simp; rfl)); (case hp => exact (Reps.one (show Kd.M (Kd.int .u32) _ _ _ x3_1 [.int .u32 x3_1] from rfl) (Reps.one (show Kd.M (Kd.int .u32) _ _ _ 1048691 [.int .u32 1048691] from rfl) (Reps.none _ _)))); intro v450 w10 ho11 hb hg_ hnew_; clear hg_ hnew_; (first | rw [← Ny449.out] at ho11 | (simp only [Int.reduceToNat] at ho11; rw [← Ny449.out] at ho11)); have n0_ := Aside0.mk (Kd.R_below (by (with_reducible repeat (first | apply Kd.R_alloc | apply Kd.R_drewN | apply Kd.R_drew)); exact HO_4.out) hb); have n1_ := Aside0.mk (Kd.R_lower ho11 (below_size (by repeat (first | (with_reducible first | exact HB.out | apply below_alloc | apply pw_below_drewN | apply below_drew1) | exact HB.out)))); have n2_ := Aside0.mk (below_step (by repeat (first | (with_reducible first | exact HB.out | apply below_alloc | apply pw_below_drewN | apply below_drew1) | exact HB.out)) hb); clear HO_4; clear HB; have HO_4 := n0_; have HO451 := n1_; have HB := n2_; clear n0_ n1_ n2_; clear hb ho11; obtain ⟨Ao12, co12, eo12⟩ := Kd.R_slice HO451.out; subst eo12) | ((with_reducible refine gate_dst (N := 5) rfl ?_); (try (refine gate_guard (by rfl) ?_; dsimp only)); refine box_event ?hg (N := 5) ?hd (cs := #[.int .u32 0, .int .u32 0, .slice none 0 0, .int .i64 0]) (t := 32) ?hr ?_; (case hd => rfl); (case hg => rfl); (case hr => first | (go_simp; done) | (go_simp; rfl)); intro gb452 hg w13 hbox hb; have n0_ := Aside0.mk (Kd.R_below (by (with_reducible repeat (first | apply Kd.R_alloc | apply Kd.R_drewN | apply Kd.R_drew)); exact HO_4.out) hb); have n1_ := Aside0.mk (Kd.R_below (by (with_reducible repeat (first | apply Kd.R_alloc | apply Kd.R_drewN | apply Kd.R_drew)); exact HO451.out) hb); have n2_ := Aside0.mk (below_step (by repeat (first | (with_reducible first | exact HB.out | apply below_alloc | apply pw_below_drewN | apply below_drew1) | exact HB.out)) hb); have n3_ := Aside0.mk (hbox); have n4_ := Aside0.mk ((by rw [hg]; exact (below_size (by repeat (first | (with_reducible first | exact HB.out | apply below_alloc | apply pw_below_drewN | apply below_drew1) | exact HB.out))) : w.heap.size ≤ gb452)); have n5_ := Aside0.mk ((by rw [hg]; exact (below_size (by repeat (first | (with_reducible first | exact HB.out | apply below_alloc | apply pw_below_drewN | apply below_drew1) | exact HB.out))) : w.heap.size ≤ gb452)); clear HO_4; clear HO451; clear HB; have HO_4 := n0_; have HO451 := n1_; have HB := n2_; have BK452 := n3_; have GW452 := n4_; have GE452 := n5_; clear n0_ n1_ n2_ n3_ n4_ n5_; clear hb hbox hg; have hcz14_0 : w13.cell? ⟨gb452, 0, none⟩ = some (.int .u32 0) := (blk_cell BK452.out 0).trans rfl; have hcz14_1 : w13.cell? ⟨gb452, 1, none⟩ = some (.int .u32 0) := (blk_cell BK452.out 1).trans rfl; have hcz14_2 : w13.cell? ⟨gb452, 2, none⟩ = some (.slice none 0 0) := (blk_cell BK452.out 2).trans rfl; have hcz14_3 : w13.cell? ⟨gb452, 3, none⟩ = some (.int .i64 0) := (blk_cell BK452.out 3).trans rfl; have hfz14_0 := blk_frozen BK452.out 0; have hfz14_1 := blk_frozen BK452.out 1; have hfz14_2 := blk_frozen BK452.out 2; have hfz14_3 := blk_frozen BK452.out 3) | (go_at_call 19; (refine (blocks_Find.calls 4096 4096 _ _ y449 0 _ _ ([] : List Int) t453 t456 _ ?side1 ?side2 ?side3 ?side4 A8.out).mono ?_); (case side1 => refine (Kd.R_reads' (e := 24) (base := w.heap.size) (ok := fun k_ => True) (n := y449.length) (c := co12) ?_).2.2; exact (by (with_reducible repeat (first | apply Kd.R_alloc | apply Kd.R_drewN | apply Kd.R_drew)); exact (Kd.R_mono (Kd.R_far (p := ⟨gb452, 3, none⟩) (Kd.R_far (p := ⟨gb452, 2, none⟩) (Kd.R_far (p := ⟨gb452, 1, none⟩) (Kd.R_far (p := ⟨gb452, 0, none⟩) (Kd.R_types HO451.out BK452.out (by decide)) (fun _ hk => hk.2) (.int .u32 4096)) (fun _ hk => hk.2) (.int .u32 4096)) (fun _ hk => hk.2) (.slice Ao12 y449.length co12)) (fun _ hk => hk.2) (.int .i64 0)) (fun _ h_ => h_.1)))); (case side2 => exact (Kd.R_reads' HO451.out).2.1); (case side3 => exact Kd.C_nil _ _); (case side4 => exact Nat.le_refl _); rintro e w15 ⟨v454, rfl, ho0, hb⟩; have n0_ := Aside0.mk (Kd.R_below (by (with_reducible repeat (first | apply Kd.R_alloc | apply Kd.R_drewN | apply Kd.R_drew)); exact (Kd.R_mono (Kd.R_far (p := ⟨gb452, 3, none⟩) (Kd.R_far (p := ⟨gb452, 2, none⟩) (Kd.R_far (p := ⟨gb452, 1, none⟩) (Kd.R_far (p := ⟨gb452, 0, none⟩) (Kd.R_types HO_4.out BK452.out (by decide)) (fun _ hk => hk.2) (.int .u32 4096)) (fun _ hk => hk.2) (.int .u32 4096)) (fun _ hk => hk.2) (.slice Ao12 y449.length co12)) (fun _ hk => hk.2) (.int .i64 0)) (fun _ h_ => h_.1))) hb); have n1_ := Aside0.mk (Kd.R_below (by (with_reducible repeat (first | apply Kd.R_alloc | apply Kd.R_drewN | apply Kd.R_drew)); exact (Kd.R_mono (Kd.R_far (p := ⟨gb452, 3, none⟩) (Kd.R_far (p := ⟨gb452, 2, none⟩) (Kd.R_far (p := ⟨gb452, 1, none⟩) (Kd.R_far (p := ⟨gb452, 0, none⟩) (Kd.R_types HO451.out BK452.out (by decide)) (fun _ hk => hk.2) (.int .u32 4096)) (fun _ hk => hk.2) (.int .u32 4096)) (fun _ hk => hk.2) (.slice Ao12 y449.length co12)) (fun _ hk => hk.2) (.int .i64 0)) (fun _ h_ => h_.1))) hb); have n2_ := Aside0.mk (Kd.R_lower ho0 (below_size (by repeat (first | (with_reducible first | exact HB.out | apply below_alloc | apply pw_below_drewN | apply below_drew1 | refine below_set ?_ GE452.out) | exact HB.out)))); have n3_ := Aside0.mk (blk_below (g := gb452) (o := .cells #[.int .u32 4096, .int .u32 4096, .slice Ao12 y449.length co12, .int .i64 0] 32 (0, 0)) (by (with_reducible repeat (first | refine blk_drewN ?_ _ | refine blk_drew ?_ | refine blk_alloc ?_ _)); refine blk_put (cs := #[.int .u32 4096, .int .u32 4096, .slice Ao12 y449.length co12, .int .i64 0]) ?_ 3 _ rfl; (with_reducible repeat (first | refine blk_drewN ?_ _ | refine blk_drew ?_ | refine blk_alloc ?_ _)); refine blk_put (cs := #[.int .u32 4096, .int .u32 4096, .slice none 0 0, .int .i64 0]) ?_ 2 _ rfl; (with_reducible repeat (first | refine blk_drewN ?_ _ | refine blk_drew ?_ | refine blk_alloc ?_ _)); refine blk_put (cs := #[.int .u32 4096, .int .u32 0, .slice none 0 0, .int .i64 0]) ?_ 1 _ rfl; (with_reducible repeat (first | refine blk_drewN ?_ _ | refine blk_drew ?_ | refine blk_alloc ?_ _)); refine blk_put (cs := #[.int .u32 0, .int .u32 0, .slice none 0 0, .int .i64 0]) ?_ 0 _ rfl; (with_reducible repeat (first | refine blk_drewN ?_ _ | refine blk_drew ?_ | refine blk_alloc ?_ _)); exact BK452.out) hb); have n4_ := Aside0.mk (below_step (by repeat (first | (with_reducible first | exact HB.out | apply below_alloc | apply pw_below_drewN | apply below_drew1 | refine below_set ?_ GE452.out) | exact HB.out)) hb); clear HO_4; clear HO451; clear BK452; clear HB; have HO_4 := n0_; have HO451 := n1_; have HO455 := n2_; have BK452 := n3_; have HB := n4_; clear n0_ n1_ n2_ n3_ n4_; (try clear hb); (try clear hb2); (try clear hk); (try clear hi); (try clear ho0))))
   (try simp only [Act.put, List.setIfInBounds_toArray, List.set_cons_zero, List.set_cons_succ])
   go_cut [30] (fun v30 wc => ∃ (kq : Nat) (x30_8 : Bool), v30 = .bool x30_8 ∧ Aside0 (whetstonelaw08_BlocksLoops.j1 kq x4_1 t453 x30_8 4096 4096 y449 0 = some r) ∧ Aside0 (kq ≤ kj1) ∧ Aside0 (Kd.R (Kd.int .i64) 3 wc w.heap.size (fun _ => True) u4 x4_1) ∧ Aside0 (Kd.R k40 40 wc w.heap.size (fun _ => True) v454 t453) ∧ Aside0 (Kd.R (Kd.int .u32) 24 wc w.heap.size (fun _ => True) (.slice Ao12 y449.length co12) y449) ∧ Aside0 (wc.heap[gb452]? = some (.cells #[.int .u32 4096, .int .u32 4096, (.slice Ao12 y449.length co12), .int .i64 0] 32 (0, 0))) ∧ Aside0 (Below w.heap.size w wc))
   case first =>
    have H := HC9.out
    clear HC9
    by_cases c16 : t456 = 0
    ·rw [if_pos c16] at H
     have c16b0 : (t456 == 0) = true := beq_iff_eq.mpr c16
     have c16b1 : (t456 != 0) = false := bne_eq_false_iff_eq.mpr c16
     clear c16
     (first | rw [c16b0] | (simp only [i64_w, i32_w]; rw [c16b0]) | skip)
     have H' := Aside0.mk H
     clear H
     obtain ⟨Ao17, co17, eo17⟩ := Kd.R_slice HO455.out
     subst eo17
     go_wp2
     repeat (go_quiet (fail); try go_wp2)
     go_meet
     case rel => exact ⟨_, (((t453.length : Int) != 2)), (by first | rfl | (simp; done) | (simp [*]; done)), H', ⟨by have := HJ1.out; first | omega | exact Nat.le_refl _⟩, ⟨by (with_reducible repeat (first | apply Kd.R_alloc | apply Kd.R_drewN | apply Kd.R_drew)); exact HO_4.out⟩, ⟨by (with_reducible repeat (first | apply Kd.R_alloc | apply Kd.R_drewN | apply Kd.R_drew)); exact HO455.out⟩, ⟨by (with_reducible repeat (first | apply Kd.R_alloc | apply Kd.R_drewN | apply Kd.R_drew)); exact HO451.out⟩, ⟨by (with_reducible repeat (first | refine blk_drewN ?_ _ | refine blk_drew ?_ | refine blk_alloc ?_ _)); exact BK452.out⟩, ⟨by repeat (first | (with_reducible first | exact HB.out | apply below_alloc | apply pw_below_drewN | apply below_drew1 | refine below_set ?_ GE452.out) | exact HB.out)⟩⟩
    ·rw [if_neg c16] at H
     have c16b0 : (t456 == 0) = false := beq_eq_false_iff_ne.mpr c16
     have c16b1 : (t456 != 0) = true := bne_iff_ne.mpr c16
     (first | rw [c16b0] | (simp only [i64_w, i32_w]; rw [c16b0]) | skip)
     have H' := Aside0.mk H
     clear H
     go_wp2
     repeat (go_quiet (fail); try go_wp2)
     go_meet
     case rel => exact ⟨_, (true), (by first | rfl | (simp; done) | (simp [*]; done)), H', ⟨by have := HJ1.out; first | omega | exact Nat.le_refl _⟩, ⟨by (with_reducible repeat (first | apply Kd.R_alloc | apply Kd.R_drewN | apply Kd.R_drew)); exact HO_4.out⟩, ⟨by (with_reducible repeat (first | apply Kd.R_alloc | apply Kd.R_drewN | apply Kd.R_drew)); exact HO455.out⟩, ⟨by (with_reducible repeat (first | apply Kd.R_alloc | apply Kd.R_drewN | apply Kd.R_drew)); exact HO451.out⟩, ⟨by (with_reducible repeat (first | refine blk_drewN ?_ _ | refine blk_drew ?_ | refine blk_alloc ?_ _)); exact BK452.out⟩, ⟨by repeat (first | (with_reducible first | exact HB.out | apply below_alloc | apply pw_below_drewN | apply below_drew1 | refine below_set ?_ GE452.out) | exact HB.out)⟩⟩
   case rest =>
    clear HC9
    try clear c1
    try clear p2
    try clear c5
    try clear c10
    try clear c16
    try clear c16b0
    try clear c16b1
    try clear hcz14_0
    try clear hcz14_1
    try clear hcz14_2
    try clear hcz14_3
    try clear hfz14_0
    try clear hfz14_1
    try clear hfz14_2
    try clear hfz14_3
    try clear p2
    obtain ⟨kq, x30_8, rfl, HA, HJ8, HO_4, HO_6, HO_453002, BK452, HB⟩ := hcut
    cases kq with
    | zero => exact absurd HA.out (by simp [whetstonelaw08_BlocksLoops.j1])
    | succ kj8 =>
     have H := HA.out
     clear HA
     simp only [whetstonelaw08_BlocksLoops.j1] at H
     by_cases c18 : x30_8 = true
     ·subst c18
      have H1 : (some false) = some r := by rw [if_pos rfl] at H; exact H
      clear H
      have H := H1
      clear H1
      obtain rfl := Option.some.inj H
      go_wp2
      repeat (go_quiet (fail); try go_wp2)
      go_ret
      exact ⟨by first | rfl | (simp [errW_none, errW_some] <;> rfl) | (simp [*, errW_none, errW_some] <;> rfl), by repeat (first | (with_reducible first | exact HB.out | apply below_alloc | apply pw_below_drewN | apply below_drew1 | refine below_set ?_ GE452.out) | exact HB.out)⟩
     ·replace c18 := Bool.eq_false_iff.mpr c18
      subst c18
      have H1 : ((blocks_Next.f kj8 4096 4096 y449 0 t453 0).bind fun bt457 => ((blocks_Next.f kj8 4096 4096 y449 0 t453 1).bind fun bt461 => (if (bt457.1.length : Int) = (x4_1.length : Int) then (if (bt461.1.length : Int) = 0 then (if bt457.2 = true then (whetstonelaw08_BlocksLoops.j2 kj8 x4_1 bt457.1 true) else (whetstonelaw08_BlocksLoops.j2 kj8 x4_1 bt457.1 bt461.2)) else (whetstonelaw08_BlocksLoops.j2 kj8 x4_1 bt457.1 true)) else (whetstonelaw08_BlocksLoops.j2 kj8 x4_1 bt457.1 true)))) = some r := by rw [if_neg (show ¬ (false = true) by decide)] at H; exact H
      clear H
      have H := H1
      clear H1
      replace H := Option.bind_eq_some_iff.mp H
      obtain ⟨⟨t457, t460⟩, A190, H⟩ := H
      replace H : ((blocks_Next.f kj8 4096 4096 y449 0 t453 1).bind fun bt461 => (if (t457.length : Int) = (x4_1.length : Int) then (if (bt461.1.length : Int) = 0 then (if t460 = true then (whetstonelaw08_BlocksLoops.j2 kj8 x4_1 t457 true) else (whetstonelaw08_BlocksLoops.j2 kj8 x4_1 t457 bt461.2)) else (whetstonelaw08_BlocksLoops.j2 kj8 x4_1 t457 true)) else (whetstonelaw08_BlocksLoops.j2 kj8 x4_1 t457 true))) = some r := H
      have A19 := Aside0.mk A190
      clear A190
      replace H := Option.bind_eq_some_iff.mp H
      obtain ⟨⟨t461, t464⟩, A200, H⟩ := H
      replace H : (if (t457.length : Int) = (x4_1.length : Int) then (if (t461.length : Int) = 0 then (if t460 = true then (whetstonelaw08_BlocksLoops.j2 kj8 x4_1 t457 true) else (whetstonelaw08_BlocksLoops.j2 kj8 x4_1 t457 t464)) else (whetstonelaw08_BlocksLoops.j2 kj8 x4_1 t457 true)) else (whetstonelaw08_BlocksLoops.j2 kj8 x4_1 t457 true)) = some r := H
      have A20 := Aside0.mk A200
      clear A200
      have HC21 := Aside0.mk H
      clear H
      have hcz22_0 : wc.cell? ⟨gb452, 0, none⟩ = some (.int .u32 4096) := (blk_cell BK452.out 0).trans rfl
      have hcz22_1 : wc.cell? ⟨gb452, 1, none⟩ = some (.int .u32 4096) := (blk_cell BK452.out 1).trans rfl
      have hcz22_2 : wc.cell? ⟨gb452, 2, none⟩ = some (.slice Ao12 y449.length co12) := (blk_cell BK452.out 2).trans rfl
      have hcz22_3 : wc.cell? ⟨gb452, 3, none⟩ = some (.int .i64 0) := (blk_cell BK452.out 3).trans rfl
      have hfz22_0 := blk_frozen BK452.out 0
      have hfz22_1 := blk_frozen BK452.out 1
      have hfz22_2 := blk_frozen BK452.out 2
      have hfz22_3 := blk_frozen BK452.out 3
      obtain ⟨Ao23, co23, eo23⟩ := Kd.R_slice HO_6.out
      subst eo23
      go_upto_region 12 with (first | (go_at_call 21; (with_reducible refine (blocks_Next.calls kj8 4096 4096 _ _ y449 0 _ _ t453 0 t457 t460 _ ?side1 ?side2 ?side3 ?side4 A19.out).mono ?_); (case side1 => repeat (first | exact (Kd.R_reads' HO_453002.out).2.2 | (with_reducible refine Kd.C_alloc ?_ _) | (with_reducible refine Kd.C_drewN ?_ _) | (with_reducible refine Kd.C_drew ?_))); (case side2 => exact (Kd.R_reads' HO_453002.out).2.1); (case side3 => repeat (first | exact (Kd.R_reads' HO_6.out).2.2 | (with_reducible refine Kd.C_alloc ?_ _) | (with_reducible refine Kd.C_drewN ?_ _) | (with_reducible refine Kd.C_drew ?_))); (case side4 => exact (Kd.R_reads' HO_6.out).2.1); rintro e w24 ⟨v458, rfl, ho0, hb⟩; have n0_ := Aside0.mk (Kd.R_elder' (by (with_reducible repeat (first | apply Kd.R_alloc | apply Kd.R_drewN | apply Kd.R_drew)); exact HO_4.out) (Kd.R_base ho0) hb); have n1_ := Aside0.mk (Kd.R_below (by (with_reducible repeat (first | apply Kd.R_alloc | apply Kd.R_drewN | apply Kd.R_drew)); exact HO_6.out) hb); have n2_ := Aside0.mk (Kd.R_below (by (with_reducible repeat (first | apply Kd.R_alloc | apply Kd.R_drewN | apply Kd.R_drew)); exact HO_453002.out) hb); have n3_ := Aside0.mk (Kd.R_lower (Kd.R_new' ho0 (Kd.R_lt (by (with_reducible repeat (first | apply Kd.R_alloc | apply Kd.R_drewN | apply Kd.R_drew)); exact HO_4.out))) (below_size (by repeat (first | (with_reducible first | exact HB.out | apply below_alloc | apply pw_below_drewN | apply below_drew1 | refine below_set ?_ GE452.out) | exact HB.out)))); have n4_ := Aside0.mk (blk_below (g := gb452) (o := .cells #[.int .u32 4096, .int .u32 4096, .slice Ao12 y449.length co12, .int .i64 0] 32 (0, 0)) (by (with_reducible repeat (first | refine blk_drewN ?_ _ | refine blk_drew ?_ | refine blk_alloc ?_ _)); exact BK452.out) hb); have n5_ := Aside0.mk (below_step (by repeat (first | (with_reducible first | exact HB.out | apply below_alloc | apply pw_below_drewN | apply below_drew1 | refine below_set ?_ GE452.out) | exact HB.out)) hb); clear HO_4; clear HO_6; clear HO_453002; clear BK452; clear HB; have HO_4 := n0_; have HO_6 := n1_; have HO_453002 := n2_; have HO459 := n3_; have BK452 := n4_; have HB := n5_; clear n0_ n1_ n2_ n3_ n4_ n5_; (try clear hb); (try clear hb2); (try clear hk); (try clear hi); (try clear ho0); have hcz25_0 : w24.cell? ⟨gb452, 0, none⟩ = some (.int .u32 4096) := (blk_cell BK452.out 0).trans rfl; have hcz25_1 : w24.cell? ⟨gb452, 1, none⟩ = some (.int .u32 4096) := (blk_cell BK452.out 1).trans rfl; have hcz25_2 : w24.cell? ⟨gb452, 2, none⟩ = some (.slice Ao12 y449.length co12) := (blk_cell BK452.out 2).trans rfl; have hcz25_3 : w24.cell? ⟨gb452, 3, none⟩ = some (.int .i64 0) := (blk_cell BK452.out 3).trans rfl; have hfz25_0 := blk_frozen BK452.out 0; have hfz25_1 := blk_frozen BK452.out 1; have hfz25_2 := blk_frozen BK452.out 2; have hfz25_3 := blk_frozen BK452.out 3) | (go_at_call 21; (with_reducible refine (blocks_Next.calls kj8 4096 4096 _ _ y449 0 _ _ t453 1 t461 t464 _ ?side1 ?side2 ?side3 ?side4 A20.out).mono ?_); (case side1 => repeat (first | exact (Kd.R_reads' HO_453002.out).2.2 | (with_reducible refine Kd.C_alloc ?_ _) | (with_reducible refine Kd.C_drewN ?_ _) | (with_reducible refine Kd.C_drew ?_))); (case side2 => exact (Kd.R_reads' HO_453002.out).2.1); (case side3 => repeat (first | exact (Kd.R_reads' HO_6.out).2.2 | (with_reducible refine Kd.C_alloc ?_ _) | (with_reducible refine Kd.C_drewN ?_ _) | (with_reducible refine Kd.C_drew ?_))); (case side4 => exact (Kd.R_reads' HO_6.out).2.1); rintro e w26 ⟨v462, rfl, ho0, hb⟩; have n0_ := Aside0.mk (Kd.R_elder' (by (with_reducible repeat (first | apply Kd.R_alloc | apply Kd.R_drewN | apply Kd.R_drew)); exact HO_4.out) (Kd.R_base ho0) hb); have n1_ := Aside0.mk (Kd.R_below (by (with_reducible repeat (first | apply Kd.R_alloc | apply Kd.R_drewN | apply Kd.R_drew)); exact HO_6.out) hb); have n2_ := Aside0.mk (Kd.R_below (by (with_reducible repeat (first | apply Kd.R_alloc | apply Kd.R_drewN | apply Kd.R_drew)); exact HO_453002.out) hb); have n3_ := Aside0.mk (Kd.R_elder' (by (with_reducible repeat (first | apply Kd.R_alloc | apply Kd.R_drewN | apply Kd.R_drew)); exact HO459.out) (Kd.R_base ho0) hb); have n4_ := Aside0.mk (Kd.R_lower (Kd.R_new' (Kd.R_new' ho0 (Kd.R_lt (by (with_reducible repeat (first | apply Kd.R_alloc | apply Kd.R_drewN | apply Kd.R_drew)); exact HO_4.out))) (Kd.R_lt (by (with_reducible repeat (first | apply Kd.R_alloc | apply Kd.R_drewN | apply Kd.R_drew)); exact HO459.out))) (below_size (by repeat (first | (with_reducible first | exact HB.out | apply below_alloc | apply pw_below_drewN | apply below_drew1 | refine below_set ?_ GE452.out) | exact HB.out)))); have n5_ := Aside0.mk (blk_below (g := gb452) (o := .cells #[.int .u32 4096, .int .u32 4096, .slice Ao12 y449.length co12, .int .i64 0] 32 (0, 0)) (by (with_reducible repeat (first | refine blk_drewN ?_ _ | refine blk_drew ?_ | refine blk_alloc ?_ _)); exact BK452.out) hb); have n6_ := Aside0.mk (below_step (by repeat (first | (with_reducible first | exact HB.out | apply below_alloc | apply pw_below_drewN | apply below_drew1 | refine below_set ?_ GE452.out) | exact HB.out)) hb); clear HO_4; clear HO_6; clear HO_453002; clear HO459; clear BK452; clear HB; have HO_4 := n0_; have HO_6 := n1_; have HO_453002 := n2_; have HO459 := n3_; have HO463 := n4_; have BK452 := n5_; have HB := n6_; clear n0_ n1_ n2_ n3_ n4_ n5_ n6_; (try clear hb); (try clear hb2); (try clear hk); (try clear hi); (try clear ho0)))
      repeat (go_quiet (first | (go_at_call 21; (with_reducible refine (blocks_Next.calls kj8 4096 4096 _ _ y449 0 _ _ t453 0 t457 t460 _ ?side1 ?side2 ?side3 ?side4 A19.out).mono ?_); (case side1 => repeat (first | exact (Kd.R_reads' HO_453002.out).2.2 | (with_reducible refine Kd.C_alloc ?_ _) | (with_reducible refine Kd.C_drewN ?_ _) | (with_reducible refine Kd.C_drew ?_))); (case side2 => exact (Kd.R_reads' HO_453002.out).2.1); (case side3 => repeat (first | exact (Kd.R_reads' HO_6.out).2.2 | (with_reducible refine Kd.C_alloc ?_ _) | (with_reducible refine Kd.C_drewN ?_ _) | (with_reducible refine Kd.C_drew ?_))); (case side4 => exact (Kd.R_reads' HO_6.out).2.1); rintro e w24 ⟨v458, rfl, ho0, hb⟩; have n0_ := Aside0.mk (Kd.R_elder' (by (with_reducible repeat (first | apply Kd.R_alloc | apply Kd.R_drewN | apply Kd.R_drew)); exact HO_4.out) (Kd.R_base ho0) hb); have n1_ := Aside0.mk (Kd.R_below (by (with_reducible repeat (first | apply Kd.R_alloc | apply Kd.R_drewN | apply Kd.R_drew)); exact HO_6.out) hb); have n2_ := Aside0.mk (Kd.R_below (by (with_reducible repeat (first | apply Kd.R_alloc | apply Kd.R_drewN | apply Kd.R_drew)); exact HO_453002.out) hb); have n3_ := Aside0.mk (Kd.R_lower (Kd.R_new' ho0 (Kd.R_lt (by (with_reducible repeat (first | apply Kd.R_alloc | apply Kd.R_drewN | apply Kd.R_drew)); exact HO_4.out))) (below_size (by repeat (first | (with_reducible first | exact HB.out | apply below_alloc | apply pw_below_drewN | apply below_drew1 | refine below_set ?_ GE452.out) | exact HB.out)))); have n4_ := Aside0.mk (blk_below (g := gb452) (o := .cells #[.int .u32 4096, .int .u32 4096, .slice Ao12 y449.length co12, .int .i64 0] 32 (0, 0)) (by (with_reducible repeat (first | refine blk_drewN ?_ _ | refine blk_drew ?_ | refine blk_alloc ?_ _)); exact BK452.out) hb); have n5_ := Aside0.mk (below_step (by repeat (first | (with_reducible first | exact HB.out | apply below_alloc | apply pw_below_drewN | apply below_drew1 | refine below_set ?_ GE452.out) | exact HB.out)) hb); clear HO_4; clear HO_6; clear HO_453002; clear BK452; clear HB; have HO_4 := n0_; have HO_6 := n1_; have HO_453002 := n2_; have HO459 := n3_; have BK452 := n4_; have HB := n5_; clear n0_ n1_ n2_ n3_ n4_ n5_; (try clear hb); (try clear hb2); (try clear hk); (try clear hi); (try clear ho0); have hcz25_0 : w24.cell? ⟨gb452, 0, none⟩ = some (.int .u32 4096) := (blk_cell BK452.out 0).trans rfl; have hcz25_1 : w24.cell? ⟨gb452, 1, none⟩ = some (.int .u32 4096) := (blk_cell BK452.out 1).trans rfl; have hcz25_2 : w24.cell? ⟨gb452, 2, none⟩ = some (.slice Ao12 y449.length co12) := (blk_cell BK452.out 2).trans rfl; have hcz25_3 : w24.cell? ⟨gb452, 3, none⟩ = some (.int .i64 0) := (blk_cell BK452.out 3).trans rfl; have hfz25_0 := blk_frozen BK452.out 0; have hfz25_1 := blk_frozen BK452.out 1; have hfz25_2 := blk_frozen BK452.out 2; have hfz25_3 := blk_frozen BK452.out 3) | (go_at_call 21; (with_reducible refine (blocks_Next.calls kj8 4096 4096 _ _ y449 0 _ _ t453 1 t461 t464 _ ?side1 ?side2 ?side3 ?side4 A20.out).mono ?_); (case side1 => repeat (first | exact (Kd.R_reads' HO_453002.out).2.2 | (with_reducible refine Kd.C_alloc ?_ _) | (with_reducible refine Kd.C_drewN ?_ _) | (with_reducible refine Kd.C_drew ?_))); (case side2 => exact (Kd.R_reads' HO_453002.out).2.1); (case side3 => repeat (first | exact (Kd.R_reads' HO_6.out).2.2 | (with_reducible refine Kd.C_alloc ?_ _) | (with_reducible refine Kd.C_drewN ?_ _) | (with_reducible refine Kd.C_drew ?_))); (case side4 => exact (Kd.R_reads' HO_6.out).2.1); rintro e w26 ⟨v462, rfl, ho0, hb⟩; have n0_ := Aside0.mk (Kd.R_elder' (by (with_reducible repeat (first | apply Kd.R_alloc | apply Kd.R_drewN | apply Kd.R_drew)); exact HO_4.out) (Kd.R_base ho0) hb); have n1_ := Aside0.mk (Kd.R_below (by (with_reducible repeat (first | apply Kd.R_alloc | apply Kd.R_drewN | apply Kd.R_drew)); exact HO_6.out) hb); have n2_ := Aside0.mk (Kd.R_below (by (with_reducible repeat (first | apply Kd.R_alloc | apply Kd.R_drewN | apply Kd.R_drew)); exact HO_453002.out) hb); have n3_ := Aside0.mk (Kd.R_elder' (by (with_reducible repeat (first | apply Kd.R_alloc | apply Kd.R_drewN | apply Kd.R_drew)); exact HO459.out) (Kd.R_base ho0) hb); have n4_ := Aside0.mk (Kd.R_lower (Kd.R_new' (Kd.R_new' ho0 (Kd.R_lt (by (with_reducible repeat (first | apply Kd.R_alloc | apply Kd.R_drewN | apply Kd.R_drew)); exact HO_4.out))) (Kd.R_lt (by (with_reducible repeat (first | apply Kd.R_alloc | apply Kd.R_drewN | apply Kd.R_drew)); exact HO459.out))) (below_size (by repeat (first | (with_reducible first | exact HB.out | apply below_alloc | apply pw_below_drewN | apply below_drew1 | refine below_set ?_ GE452.out) | exact HB.out)))); have n5_ := Aside0.mk (blk_below (g := gb452) (o := .cells #[.int .u32 4096, .int .u32 4096, .slice Ao12 y449.length co12, .int .i64 0] 32 (0, 0)) (by (with_reducible repeat (first | refine blk_drewN ?_ _ | refine blk_drew ?_ | refine blk_alloc ?_ _)); exact BK452.out) hb); have n6_ := Aside0.mk (below_step (by repeat (first | (with_reducible first | exact HB.out | apply below_alloc | apply pw_below_drewN | apply below_drew1 | refine below_set ?_ GE452.out) | exact HB.out)) hb); clear HO_4; clear HO_6; clear HO_453002; clear HO459; clear BK452; clear HB; have HO_4 := n0_; have HO_6 := n1_; have HO_453002 := n2_; have HO459 := n3_; have HO463 := n4_; have BK452 := n5_; have HB := n6_; clear n0_ n1_ n2_ n3_ n4_ n5_ n6_; (try clear hb); (try clear hb2); (try clear hk); (try clear hi); (try clear ho0))); go_upto_region 12 with (first | (go_at_call 21; (with_reducible refine (blocks_Next.calls kj8 4096 4096 _ _ y449 0 _ _ t453 0 t457 t460 _ ?side1 ?side2 ?side3 ?side4 A19.out).mono ?_); (case side1 => repeat (first | exact (Kd.R_reads' HO_453002.out).2.2 | (with_reducible refine Kd.C_alloc ?_ _) | (with_reducible refine Kd.C_drewN ?_ _) | (with_reducible refine Kd.C_drew ?_))); (case side2 => exact (Kd.R_reads' HO_453002.out).2.1); (case side3 => repeat (first | exact (Kd.R_reads' HO_6.out).2.2 | (with_reducible refine Kd.C_alloc ?_ _) | (with_reducible refine Kd.C_drewN ?_ _) | (with_reducible refine Kd.C_drew ?_))); (case side4 => exact (Kd.R_reads' HO_6.out).2.1); rintro e w24 ⟨v458, rfl, ho0, hb⟩; have n0_ := Aside0.mk (Kd.R_elder' (by (with_reducible repeat (first | apply Kd.R_alloc | apply Kd.R_drewN | apply Kd.R_drew)); exact HO_4.out) (Kd.R_base ho0) hb); have n1_ := Aside0.mk (Kd.R_below (by (with_reducible repeat (first | apply Kd.R_alloc | apply Kd.R_drewN | apply Kd.R_drew)); exact HO_6.out) hb); have n2_ := Aside0.mk (Kd.R_below (by (with_reducible repeat (first | apply Kd.R_alloc | apply Kd.R_drewN | apply Kd.R_drew)); exact HO_453002.out) hb); have n3_ := Aside0.mk (Kd.R_lower (Kd.R_new' ho0 (Kd.R_lt (by (with_reducible repeat (first | apply Kd.R_alloc | apply Kd.R_drewN | apply Kd.R_drew)); exact HO_4.out))) (below_size (by repeat (first | (with_reducible first | exact HB.out | apply below_alloc | apply pw_below_drewN | apply below_drew1 | refine below_set ?_ GE452.out) | exact HB.out)))); have n4_ := Aside0.mk (blk_below (g := gb452) (o := .cells #[.int .u32 4096, .int .u32 4096, .slice Ao12 y449.length co12, .int .i64 0] 32 (0, 0)) (by (with_reducible repeat (first | refine blk_drewN ?_ _ | refine blk_drew ?_ | refine blk_alloc ?_ _)); exact BK452.out) hb); have n5_ := Aside0.mk (below_step (by repeat (first | (with_reducible first | exact HB.out | apply below_alloc | apply pw_below_drewN | apply below_drew1 | refine below_set ?_ GE452.out) | exact HB.out)) hb); clear HO_4; clear HO_6; clear HO_453002; clear BK452; clear HB; have HO_4 := n0_; have HO_6 := n1_; have HO_453002 := n2_; have HO459 := n3_; have BK452 := n4_; have HB := n5_; clear n0_ n1_ n2_ n3_ n4_ n5_; (try clear hb); (try clear hb2); (try clear hk); (try clear hi); (try clear ho0); have hcz25_0 : w24.cell? ⟨gb452, 0, none⟩ = some (.int .u32 4096) := (blk_cell BK452.out 0).trans rfl; have hcz25_1 : w24.cell? ⟨gb452, 1, none⟩ = some (.int .u32 4096) := (blk_cell BK452.out 1).trans rfl; have hcz25_2 : w24.cell? ⟨gb452, 2, none⟩ = some (.slice Ao12 y449.length co12) := (blk_cell BK452.out 2).trans rfl; have hcz25_3 : w24.cell? ⟨gb452, 3, none⟩ = some (.int .i64 0) := (blk_cell BK452.out 3).trans rfl; have hfz25_0 := blk_frozen BK452.out 0; have hfz25_1 := blk_frozen BK452.out 1; have hfz25_2 := blk_frozen BK452.out 2; have hfz25_3 := blk_frozen BK452.out 3) | (go_at_call 21; (with_reducible refine (blocks_Next.calls kj8 4096 4096 _ _ y449 0 _ _ t453 1 t461 t464 _ ?side1 ?side2 ?side3 ?side4 A20.out).mono ?_); (case side1 => repeat (first | exact (Kd.R_reads' HO_453002.out).2.2 | (with_reducible refine Kd.C_alloc ?_ _) | (with_reducible refine Kd.C_drewN ?_ _) | (with_reducible refine Kd.C_drew ?_))); (case side2 => exact (Kd.R_reads' HO_453002.out).2.1); (case side3 => repeat (first | exact (Kd.R_reads' HO_6.out).2.2 | (with_reducible refine Kd.C_alloc ?_ _) | (with_reducible refine Kd.C_drewN ?_ _) | (with_reducible refine Kd.C_drew ?_))); (case side4 => exact (Kd.R_reads' HO_6.out).2.1); rintro e w26 ⟨v462, rfl, ho0, hb⟩; have n0_ := Aside0.mk (Kd.R_elder' (by (with_reducible repeat (first | apply Kd.R_alloc | apply Kd.R_drewN | apply Kd.R_drew)); exact HO_4.out) (Kd.R_base ho0) hb); have n1_ := Aside0.mk (Kd.R_below (by (with_reducible repeat (first | apply Kd.R_alloc | apply Kd.R_drewN | apply Kd.R_drew)); exact HO_6.out) hb); have n2_ := Aside0.mk (Kd.R_below (by (with_reducible repeat (first | apply Kd.R_alloc | apply Kd.R_drewN | apply Kd.R_drew)); exact HO_453002.out) hb); have n3_ := Aside0.mk (Kd.R_elder' (by (with_reducible repeat (first | apply Kd.R_alloc | apply Kd.R_drewN | apply Kd.R_drew)); exact HO459.out) (Kd.R_base ho0) hb); have n4_ := Aside0.mk (Kd.R_lower (Kd.R_new' (Kd.R_new' ho0 (Kd.R_lt (by (with_reducible repeat (first | apply Kd.R_alloc | apply Kd.R_drewN | apply Kd.R_drew)); exact HO_4.out))) (Kd.R_lt (by (with_reducible repeat (first | apply Kd.R_alloc | apply Kd.R_drewN | apply Kd.R_drew)); exact HO459.out))) (below_size (by repeat (first | (with_reducible first | exact HB.out | apply below_alloc | apply pw_below_drewN | apply below_drew1 | refine below_set ?_ GE452.out) | exact HB.out)))); have n5_ := Aside0.mk (blk_below (g := gb452) (o := .cells #[.int .u32 4096, .int .u32 4096, .slice Ao12 y449.length co12, .int .i64 0] 32 (0, 0)) (by (with_reducible repeat (first | refine blk_drewN ?_ _ | refine blk_drew ?_ | refine blk_alloc ?_ _)); exact BK452.out) hb); have n6_ := Aside0.mk (below_step (by repeat (first | (with_reducible first | exact HB.out | apply below_alloc | apply pw_below_drewN | apply below_drew1 | refine below_set ?_ GE452.out) | exact HB.out)) hb); clear HO_4; clear HO_6; clear HO_453002; clear HO459; clear BK452; clear HB; have HO_4 := n0_; have HO_6 := n1_; have HO_453002 := n2_; have HO459 := n3_; have HO463 := n4_; have BK452 := n5_; have HB := n6_; clear n0_ n1_ n2_ n3_ n4_ n5_ n6_; (try clear hb); (try clear hb2); (try clear hk); (try clear hi); (try clear ho0))))
      (try simp only [Act.put, List.setIfInBounds_toArray, List.set_cons_zero, List.set_cons_succ])
      go_cut [58] (fun v58 wc => ∃ (kq : Nat) (x58_20 : Bool), v58 = .bool x58_20 ∧ Aside0 (whetstonelaw08_BlocksLoops.j2 kq x4_1 t457 x58_20 = some r) ∧ Aside0 (kq ≤ kj8) ∧ Aside0 (Kd.R (Kd.int .i64) 3 wc w.heap.size (fun k_ => some k_ ≠ (v458 : Value).ownBlock) u4 x4_1) ∧ Aside0 (Kd.R (Kd.int .i64) 3 wc w.heap.size (fun k_ => some k_ ≠ (u4 : Value).ownBlock) v458 t457) ∧ Aside0 (Kd.R (Kd.int .u32) 24 wc w.heap.size (fun _ => True) (.slice Ao12 y449.length co12) y449) ∧ Aside0 (wc.heap[gb452]? = some (.cells #[.int .u32 4096, .int .u32 4096, (.slice Ao12 y449.length co12), .int .i64 0] 32 (0, 0))) ∧ Aside0 (Below w.heap.size w wc))
      case first =>
       have H := HC21.out
       clear HC21
       by_cases c27 : (t457.length : Int) = (x4_1.length : Int)
       ·rw [if_pos c27] at H
        have c27b0 : ((t457.length : Int) == (x4_1.length : Int)) = true := beq_iff_eq.mpr c27
        have c27b1 : ((t457.length : Int) != (x4_1.length : Int)) = false := bne_eq_false_iff_eq.mpr c27
        have c27b2 : (t457.length == x4_1.length) = true := by first | simpa using c27 | (simp at c27 ⊢; omega)
        clear c27
        (first | rw [c27b0] | (simp only [i64_w, i32_w]; rw [c27b0]) | skip)
        by_cases c28 : (t461.length : Int) = 0
        ·rw [if_pos c28] at H
         have c28b0 : ((t461.length : Int) == 0) = true := beq_iff_eq.mpr c28
         have c28b1 : ((t461.length : Int) != 0) = false := bne_eq_false_iff_eq.mpr c28
         clear c28
         by_cases c29 : t460 = true
         ·subst c29
          have H1 : (whetstonelaw08_BlocksLoops.j2 kj8 x4_1 t457 true) = some r := by rw [if_pos rfl] at H; exact H
          clear H
          have H := H1
          clear H1
          have H' := Aside0.mk H
          clear H
          obtain ⟨Ao30, co30, eo30⟩ := Kd.R_slice HO459.out
          subst eo30
          obtain ⟨Ao31, co31, eo31⟩ := Kd.R_slice HO_4.out
          subst eo31
          obtain ⟨Ao32, co32, eo32⟩ := Kd.R_slice HO463.out
          subst eo32
          go_wp2
          repeat (go_quiet (fail); try go_wp2)
          go_meet
          case rel => exact ⟨_, (true), (by first | rfl | (simp; done) | (simp [*]; done)), H', ⟨by have := HJ1.out; have := HJ8.out; first | omega | exact Nat.le_refl _⟩, ⟨by (with_reducible repeat (first | apply Kd.R_alloc | apply Kd.R_drewN | apply Kd.R_drew)); exact Kd.R_mono HO_4.out (fun _ hk => hk.1.2)⟩, ⟨by (with_reducible repeat (first | apply Kd.R_alloc | apply Kd.R_drewN | apply Kd.R_drew)); exact Kd.R_mono HO459.out (fun _ hk => hk.1.2)⟩, ⟨by (with_reducible repeat (first | apply Kd.R_alloc | apply Kd.R_drewN | apply Kd.R_drew)); exact HO_453002.out⟩, ⟨by (with_reducible repeat (first | refine blk_drewN ?_ _ | refine blk_drew ?_ | refine blk_alloc ?_ _)); exact BK452.out⟩, ⟨by repeat (first | (with_reducible first | exact HB.out | apply below_alloc | apply pw_below_drewN | apply below_drew1 | refine below_set ?_ GE452.out) | exact HB.out)⟩⟩
         ·replace c29 := Bool.eq_false_iff.mpr c29
          subst c29
          have H1 : (whetstonelaw08_BlocksLoops.j2 kj8 x4_1 t457 t464) = some r := by rw [if_neg (show ¬ (false = true) by decide)] at H; exact H
          clear H
          have H := H1
          clear H1
          have H' := Aside0.mk H
          clear H
          obtain ⟨Ao33, co33, eo33⟩ := Kd.R_slice HO459.out
          subst eo33
          obtain ⟨Ao34, co34, eo34⟩ := Kd.R_slice HO_4.out
          subst eo34
          obtain ⟨Ao35, co35, eo35⟩ := Kd.R_slice HO463.out
          subst eo35
          go_wp2
          repeat (go_quiet (fail); try go_wp2)
          go_meet
          case rel => exact ⟨_, (t464), (by first | rfl | (simp; done) | (simp [*]; done)), H', ⟨by have := HJ1.out; have := HJ8.out; first | omega | exact Nat.le_refl _⟩, ⟨by (with_reducible repeat (first | apply Kd.R_alloc | apply Kd.R_drewN | apply Kd.R_drew)); exact Kd.R_mono HO_4.out (fun _ hk => hk.1.2)⟩, ⟨by (with_reducible repeat (first | apply Kd.R_alloc | apply Kd.R_drewN | apply Kd.R_drew)); exact Kd.R_mono HO459.out (fun _ hk => hk.1.2)⟩, ⟨by (with_reducible repeat (first | apply Kd.R_alloc | apply Kd.R_drewN | apply Kd.R_drew)); exact HO_453002.out⟩, ⟨by (with_reducible repeat (first | refine blk_drewN ?_ _ | refine blk_drew ?_ | refine blk_alloc ?_ _)); exact BK452.out⟩, ⟨by repeat (first | (with_reducible first | exact HB.out | apply below_alloc | apply pw_below_drewN | apply below_drew1 | refine below_set ?_ GE452.out) | exact HB.out)⟩⟩
        ·rw [if_neg c28] at H
         have c28b0 : ((t461.length : Int) == 0) = false := beq_eq_false_iff_ne.mpr c28
         have c28b1 : ((t461.length : Int) != 0) = true := bne_iff_ne.mpr c28
         have c28b2 : ¬ (t461 = []) := fun h_ => c28 (by rw [h_]; rfl)
         have H' := Aside0.mk H
         clear H
         obtain ⟨Ao36, co36, eo36⟩ := Kd.R_slice HO459.out
         subst eo36
         obtain ⟨Ao37, co37, eo37⟩ := Kd.R_slice HO_4.out
         subst eo37
         obtain ⟨Ao38, co38, eo38⟩ := Kd.R_slice HO463.out
         subst eo38
         go_wp2
         repeat (go_quiet (fail); try go_wp2)
         go_meet
         case rel => exact ⟨_, (true), (by first | rfl | (simp; done) | (simp [*]; done)), H', ⟨by have := HJ1.out; have := HJ8.out; first | omega | exact Nat.le_refl _⟩, ⟨by (with_reducible repeat (first | apply Kd.R_alloc | apply Kd.R_drewN | apply Kd.R_drew)); exact Kd.R_mono HO_4.out (fun _ hk => hk.1.2)⟩, ⟨by (with_reducible repeat (first | apply Kd.R_alloc | apply Kd.R_drewN | apply Kd.R_drew)); exact Kd.R_mono HO459.out (fun _ hk => hk.1.2)⟩, ⟨by (with_reducible repeat (first | apply Kd.R_alloc | apply Kd.R_drewN | apply Kd.R_drew)); exact HO_453002.out⟩, ⟨by (with_reducible repeat (first | refine blk_drewN ?_ _ | refine blk_drew ?_ | refine blk_alloc ?_ _)); exact BK452.out⟩, ⟨by repeat (first | (with_reducible first | exact HB.out | apply below_alloc | apply pw_below_drewN | apply below_drew1 | refine below_set ?_ GE452.out) | exact HB.out)⟩⟩
       ·rw [if_neg c27] at H
        have c27b0 : ((t457.length : Int) == (x4_1.length : Int)) = false := beq_eq_false_iff_ne.mpr c27
        have c27b1 : ((t457.length : Int) != (x4_1.length : Int)) = true := bne_iff_ne.mpr c27
        have c27b2 : (t457.length == x4_1.length) = false := by first | simpa using c27 | (simp at c27 ⊢; omega)
        (first | rw [c27b0] | (simp only [i64_w, i32_w]; rw [c27b0]) | skip)
        have H' := Aside0.mk H
        clear H
        obtain ⟨Ao39, co39, eo39⟩ := Kd.R_slice HO459.out
        subst eo39
        obtain ⟨Ao40, co40, eo40⟩ := Kd.R_slice HO_4.out
        subst eo40
        go_wp2
        repeat (go_quiet (fail); try go_wp2)
        go_meet
        case rel => exact ⟨_, (true), (by first | rfl | (simp; done) | (simp [*]; done)), H', ⟨by have := HJ1.out; have := HJ8.out; first | omega | exact Nat.le_refl _⟩, ⟨by (with_reducible repeat (first | apply Kd.R_alloc | apply Kd.R_drewN | apply Kd.R_drew)); exact Kd.R_mono HO_4.out (fun _ hk => hk.1.2)⟩, ⟨by (with_reducible repeat (first | apply Kd.R_alloc | apply Kd.R_drewN | apply Kd.R_drew)); exact Kd.R_mono HO459.out (fun _ hk => hk.1.2)⟩, ⟨by (with_reducible repeat (first | apply Kd.R_alloc | apply Kd.R_drewN | apply Kd.R_drew)); exact HO_453002.out⟩, ⟨by (with_reducible repeat (first | refine blk_drewN ?_ _ | refine blk_drew ?_ | refine blk_alloc ?_ _)); exact BK452.out⟩, ⟨by repeat (first | (with_reducible first | exact HB.out | apply below_alloc | apply pw_below_drewN | apply below_drew1 | refine below_set ?_ GE452.out) | exact HB.out)⟩⟩
      case rest =>
       clear HC21
       try clear c1
       try clear c2
       try clear p2
       try clear c5
       try clear c10
       try clear c16
       try clear c16b0
       try clear c16b1
       try clear c18
       try clear c27
       try clear c27b0
       try clear c27b1
       try clear c27b2
       try clear c28
       try clear c28b0
       try clear c28b1
       try clear c28b2
       try clear c29
       try clear hcz14_0
       try clear hcz14_1
       try clear hcz14_2
       try clear hcz14_3
       try clear hcz22_0
       try clear hcz22_1
       try clear hcz22_2
       try clear hcz22_3
       try clear hcz25_0
       try clear hcz25_1
       try clear hcz25_2
       try clear hcz25_3
       try clear hfz14_0
       try clear hfz14_1
       try clear hfz14_2
       try clear hfz14_3
       try clear hfz22_0
       try clear hfz22_1
       try clear hfz22_2
       try clear hfz22_3
       try clear hfz25_0
       try clear hfz25_1
       try clear hfz25_2
       try clear hfz25_3
       try clear p2
       obtain ⟨kq, x58_20, rfl, HA, HJ20, HO_4, HO_8, HO_453002, BK452, HB⟩ := hcut
       cases kq with
       | zero => exact absurd HA.out (by simp [whetstonelaw08_BlocksLoops.j2])
       | succ kj20 =>
        have H := HA.out
        clear HA
        simp only [whetstonelaw08_BlocksLoops.j2] at H
        by_cases c41 : x58_20 = true
        ·subst c41
         have H1 : (some false) = some r := by rw [if_pos rfl] at H; exact H
         clear H
         have H := H1
         clear H1
         obtain rfl := Option.some.inj H
         go_wp2
         repeat (go_quiet (fail); try go_wp2)
         go_ret
         exact ⟨by first | rfl | (simp [errW_none, errW_some] <;> rfl) | (simp [*, errW_none, errW_some] <;> rfl), by repeat (first | (with_reducible first | exact HB.out | apply below_alloc | apply pw_below_drewN | apply below_drew1 | refine below_set ?_ GE452.out) | exact HB.out)⟩
        ·replace c41 := Bool.eq_false_iff.mpr c41
         subst c41
         have H1 : (whetstonelaw08_BlocksLoops.l0 kj20 x4_1 t457 0) = some r := by rw [if_neg (show ¬ (false = true) by decide)] at H; exact H
         clear H
         have H := H1
         clear H1
         have H' := Aside0.mk H
         clear H
         go_wp2
         repeat (go_quiet (fail); try go_wp2)
         go_loopg [12] kj20 (fun kq v12 w' => ∃ (x12_4 : Int), v12 = .int .i64 x12_4 ∧ Aside0 (whetstonelaw08_BlocksLoops.l0 kq x4_1 t457 x12_4 = some r) ∧ Aside0 (kq ≤ kj20) ∧ Aside0 (Kd.R (Kd.int .i64) 3 w' w.heap.size (fun k_ => some k_ ≠ (v458 : Value).ownBlock) u4 x4_1) ∧ Aside0 (Kd.R (Kd.int .i64) 3 w' w.heap.size (fun k_ => some k_ ≠ (u4 : Value).ownBlock) v458 t457) ∧ Aside0 (Kd.R (Kd.int .u32) 24 w' w.heap.size (fun _ => True) (.slice Ao12 y449.length co12) y449) ∧ Aside0 (w'.heap[gb452]? = some (.cells #[.int .u32 4096, .int .u32 4096, (.slice Ao12 y449.length co12), .int .i64 0] 32 (0, 0))) ∧ Aside0 (Below w.heap.size w w'))
         case atStart => exact ⟨(0), (by first | rfl | (simp; done) | (simp [*]; done)), H', ⟨Nat.le_refl _⟩, ⟨by (with_reducible repeat (first | apply Kd.R_alloc | apply Kd.R_drewN | apply Kd.R_drew)); exact HO_4.out⟩, ⟨by (with_reducible repeat (first | apply Kd.R_alloc | apply Kd.R_drewN | apply Kd.R_drew)); exact HO_8.out⟩, ⟨by (with_reducible repeat (first | apply Kd.R_alloc | apply Kd.R_drewN | apply Kd.R_drew)); exact HO_453002.out⟩, ⟨by (with_reducible repeat (first | refine blk_drewN ?_ _ | refine blk_drew ?_ | refine blk_alloc ?_ _)); exact BK452.out⟩, ⟨by repeat (first | (with_reducible first | exact HB.out | apply below_alloc | apply pw_below_drewN | apply below_drew1 | refine below_set ?_ GE452.out) | exact HB.out)⟩⟩
         case round =>
          clear H'
          try clear c1
          try clear c2
          try clear p2
          try clear c4
          try clear c5
          try clear c10
          try clear c16
          try clear c16b0
          try clear c16b1
          try clear c18
          try clear c27
          try clear c27b0
          try clear c27b1
          try clear c27b2
          try clear c28
          try clear c28b0
          try clear c28b1
          try clear c28b2
          try clear c29
          try clear c41
          try clear hcz14_0
          try clear hcz14_1
          try clear hcz14_2
          try clear hcz14_3
          try clear hcz22_0
          try clear hcz22_1
          try clear hcz22_2
          try clear hcz22_3
          try clear hcz25_0
          try clear hcz25_1
          try clear hcz25_2
          try clear hcz25_3
          try clear hfz14_0
          try clear hfz14_1
          try clear hfz14_2
          try clear hfz14_3
          try clear hfz22_0
          try clear hfz22_1
          try clear hfz22_2
          try clear hfz22_3
          try clear hfz25_0
          try clear hfz25_1
          try clear hfz25_2
          try clear hfz25_3
          try clear p2
          obtain ⟨x12_4, rfl, HA, HK4, HO_4, HO_8, HO_453002, BK452, HB⟩ := hrel
          cases gk with
          | zero => exact absurd HA.out (by simp [whetstonelaw08_BlocksLoops.l0])
          | succ k4 =>
           have H := HA.out
           clear HA
           simp only [whetstonelaw08_BlocksLoops.l0] at H
           by_cases c42 : x12_4 < (t457.length : Int)
           ·rw [if_pos c42] at H
            have c42b0 : decide (x12_4 < (t457.length : Int)) = true := decide_eq_true c42
            clear c42
            by_cases c43 : 0 ≤ x12_4
            ·rw [if_pos c43] at H
             have c43b0 : decide (0 ≤ x12_4) = true := decide_eq_true c43
             clear c43
             by_cases c44 : x12_4 < (x4_1.length : Int)
             ·rw [if_pos c44] at H
              have c44b0 : decide (x12_4 < (x4_1.length : Int)) = true := decide_eq_true c44
              clear c44
              by_cases c45 : (rd t457 x12_4) = (rd x4_1 x12_4)
              ·rw [if_pos c45] at H
               have c45b0 : ((rd t457 x12_4) == (rd x4_1 x12_4)) = true := beq_iff_eq.mpr c45
               have c45b1 : ((rd t457 x12_4) != (rd x4_1 x12_4)) = false := bne_eq_false_iff_eq.mpr c45
               clear c45
               have H' := Aside0.mk H
               clear H
               obtain ⟨Ao46, co46, eo46⟩ := Kd.R_slice HO_8.out
               subst eo46
               have p465 : 0 ≤ (x12_4 : Int) := of_decide_eq_true (by first | (with_reducible assumption) | assumption)
               have q465 : x12_4 < (t457.length : Int) := of_decide_eq_true (by first | (with_reducible assumption) | assumption)
               obtain ⟨ad465, e465, hx465_0⟩ := Kd.at_int (Kd.R_reads' HO_8.out).2.2 x12_4 p465 q465
               cases e465
               replace p465 := eq_true p465
               replace q465 := eq_true q465
               obtain ⟨Ao47, co47, eo47⟩ := Kd.R_slice HO_4.out
               subst eo47
               have p466 : 0 ≤ (x12_4 : Int) := of_decide_eq_true (by first | (with_reducible assumption) | assumption)
               have q466 : x12_4 < (x4_1.length : Int) := of_decide_eq_true (by first | (with_reducible assumption) | assumption)
               obtain ⟨ad466, e466, hx466_0⟩ := Kd.at_int (Kd.R_reads' HO_4.out).2.2 x12_4 p466 q466
               cases e466
               replace p466 := eq_true p466
               replace q466 := eq_true q466
               go_wp2
               repeat (go_quiet (fail); try go_wp2)
               go_roundg k4
               case measure => have := HJ1.out; have := HJ8.out; have := HJ20.out; have := HK4.out; omega
               case rel => exact ⟨(wrap64 (x12_4 + 1)), (by first | rfl | (simp; done) | (simp [*]; done)), H', ⟨by have := HJ1.out; have := HJ8.out; have := HJ20.out; have := HK4.out; omega⟩, ⟨by (with_reducible repeat (first | apply Kd.R_alloc | apply Kd.R_drewN | apply Kd.R_drew)); exact HO_4.out⟩, ⟨by (with_reducible repeat (first | apply Kd.R_alloc | apply Kd.R_drewN | apply Kd.R_drew)); exact HO_8.out⟩, ⟨by (with_reducible repeat (first | apply Kd.R_alloc | apply Kd.R_drewN | apply Kd.R_drew)); exact HO_453002.out⟩, ⟨by (with_reducible repeat (first | refine blk_drewN ?_ _ | refine blk_drew ?_ | refine blk_alloc ?_ _)); exact BK452.out⟩, ⟨by repeat (first | (with_reducible first | exact HB.out | apply below_alloc | apply pw_below_drewN | apply below_drew1 | refine below_set ?_ GE452.out) | exact HB.out)⟩⟩
              ·rw [if_neg c45] at H
               have c45b0 : ((rd t457 x12_4) == (rd x4_1 x12_4)) = false := beq_eq_false_iff_ne.mpr c45
               have c45b1 : ((rd t457 x12_4) != (rd x4_1 x12_4)) = true := bne_iff_ne.mpr c45
               obtain rfl := Option.some.inj H
               obtain ⟨Ao48, co48, eo48⟩ := Kd.R_slice HO_8.out
               subst eo48
               have p465 : 0 ≤ (x12_4 : Int) := of_decide_eq_true (by first | (with_reducible assumption) | assumption)
               have q465 : x12_4 < (t457.length : Int) := of_decide_eq_true (by first | (with_reducible assumption) | assumption)
               obtain ⟨ad465, e465, hx465_0⟩ := Kd.at_int (Kd.R_reads' HO_8.out).2.2 x12_4 p465 q465
               cases e465
               replace p465 := eq_true p465
               replace q465 := eq_true q465
               obtain ⟨Ao49, co49, eo49⟩ := Kd.R_slice HO_4.out
               subst eo49
               have p466 : 0 ≤ (x12_4 : Int) := of_decide_eq_true (by first | (with_reducible assumption) | assumption)
               have q466 : x12_4 < (x4_1.length : Int) := of_decide_eq_true (by first | (with_reducible assumption) | assumption)
               obtain ⟨ad466, e466, hx466_0⟩ := Kd.at_int (Kd.R_reads' HO_4.out).2.2 x12_4 p466 q466
               cases e466
               replace p466 := eq_true p466
               replace q466 := eq_true q466
               go_wp2
               repeat (go_quiet (fail); try go_wp2)
               go_ret
               exact ⟨by first | rfl | (simp [errW_none, errW_some] <;> rfl) | (simp [*, errW_none, errW_some] <;> rfl), by repeat (first | (with_reducible first | exact HB.out | apply below_alloc | apply pw_below_drewN | apply below_drew1 | refine below_set ?_ GE452.out) | exact HB.out)⟩
             ·rw [if_neg c44] at H
              exact absurd H (by simp)
            ·rw [if_neg c43] at H
             exact absurd H (by simp)
           ·rw [if_neg c42] at H
            have c42b0 : decide (x12_4 < (t457.length : Int)) = false := decide_eq_false c42
            clear c42
            replace H := Option.bind_eq_some_iff.mp H
            obtain ⟨t467, A500, H⟩ := H
            replace H : (some t467) = some r := H
            have A50 := Aside0.mk A500
            clear A500
            obtain rfl := Option.some.inj H
            obtain ⟨Ao51, co51, eo51⟩ := Kd.R_slice HO_8.out
            subst eo51
            go_wp2_with (first | (go_at_call 11; (with_reducible refine (whetstonelaw08_fixed.calls  t467 _ A50.out).mono ?_); rintro e w52 ⟨rfl, hb⟩; have n0_ := Aside0.mk (Kd.R_below (by (with_reducible repeat (first | apply Kd.R_alloc | apply Kd.R_drewN | apply Kd.R_drew)); exact HO_4.out) hb); have n1_ := Aside0.mk (Kd.R_below (by (with_reducible repeat (first | apply Kd.R_alloc | apply Kd.R_drewN | apply Kd.R_drew)); exact HO_8.out) hb); have n2_ := Aside0.mk (Kd.R_below (by (with_reducible repeat (first | apply Kd.R_alloc | apply Kd.R_drewN | apply Kd.R_drew)); exact HO_453002.out) hb); have n3_ := Aside0.mk (blk_below (g := gb452) (o := .cells #[.int .u32 4096, .int .u32 4096, .slice Ao12 y449.length co12, .int .i64 0] 32 (0, 0)) (by (with_reducible repeat (first | refine blk_drewN ?_ _ | refine blk_drew ?_ | refine blk_alloc ?_ _)); exact BK452.out) hb); have n4_ := Aside0.mk (below_step (by repeat (first | (with_reducible first | exact HB.out | apply below_alloc | apply pw_below_drewN | apply below_drew1 | refine below_set ?_ GE452.out) | exact HB.out)) hb); clear HO_4; clear HO_8; clear HO_453002; clear BK452; clear HB; have HO_4 := n0_; have HO_8 := n1_; have HO_453002 := n2_; have BK452 := n3_; have HB := n4_; clear n0_ n1_ n2_ n3_ n4_; (try clear hb); (try clear hb2); (try clear hk); (try clear hi)))
            repeat (go_quiet (first | (go_at_call 11; (with_reducible refine (whetstonelaw08_fixed.calls  t467 _ A50.out).mono ?_); rintro e w52 ⟨rfl, hb⟩; have n0_ := Aside0.mk (Kd.R_below (by (with_reducible repeat (first | apply Kd.R_alloc | apply Kd.R_drewN | apply Kd.R_drew)); exact HO_4.out) hb); have n1_ := Aside0.mk (Kd.R_below (by (with_reducible repeat (first | apply Kd.R_alloc | apply Kd.R_drewN | apply Kd.R_drew)); exact HO_8.out) hb); have n2_ := Aside0.mk (Kd.R_below (by (with_reducible repeat (first | apply Kd.R_alloc | apply Kd.R_drewN | apply Kd.R_drew)); exact HO_453002.out) hb); have n3_ := Aside0.mk (blk_below (g := gb452) (o := .cells #[.int .u32 4096, .int .u32 4096, .slice Ao12 y449.length co12, .int .i64 0] 32 (0, 0)) (by (with_reducible repeat (first | refine blk_drewN ?_ _ | refine blk_drew ?_ | refine blk_alloc ?_ _)); exact BK452.out) hb); have n4_ := Aside0.mk (below_step (by repeat (first | (with_reducible first | exact HB.out | apply below_alloc | apply pw_below_drewN | apply below_drew1 | refine below_set ?_ GE452.out) | exact HB.out)) hb); clear HO_4; clear HO_8; clear HO_453002; clear BK452; clear HB; have HO_4 := n0_; have HO_8 := n1_; have HO_453002 := n2_; have BK452 := n3_; have HB := n4_; clear n0_ n1_ n2_ n3_ n4_; (try clear hb); (try clear hb2); (try clear hk); (try clear hi))); try go_wp2_with (first | (go_at_call 11; (with_reducible refine (whetstonelaw08_fixed.calls  t467 _ A50.out).mono ?_); rintro e w52 ⟨rfl, hb⟩; have n0_ := Aside0.mk (Kd.R_below (by (with_reducible repeat (first | apply Kd.R_alloc | apply Kd.R_drewN | apply Kd.R_drew)); exact HO_4.out) hb); have n1_ := Aside0.mk (Kd.R_below (by (with_reducible repeat (first | apply Kd.R_alloc | apply Kd.R_drewN | apply Kd.R_drew)); exact HO_8.out) hb); have n2_ := Aside0.mk (Kd.R_below (by (with_reducible repeat (first | apply Kd.R_alloc | apply Kd.R_drewN | apply Kd.R_drew)); exact HO_453002.out) hb); have n3_ := Aside0.mk (blk_below (g := gb452) (o := .cells #[.int .u32 4096, .int .u32 4096, .slice Ao12 y449.length co12, .int .i64 0] 32 (0, 0)) (by (with_reducible repeat (first | refine blk_drewN ?_ _ | refine blk_drew ?_ | refine blk_alloc ?_ _)); exact BK452.out) hb); have n4_ := Aside0.mk (below_step (by repeat (first | (with_reducible first | exact HB.out | apply below_alloc | apply pw_below_drewN | apply below_drew1 | refine below_set ?_ GE452.out) | exact HB.out)) hb); clear HO_4; clear HO_8; clear HO_453002; clear BK452; clear HB; have HO_4 := n0_; have HO_8 := n1_; have HO_453002 := n2_; have BK452 := n3_; have HB := n4_; clear n0_ n1_ n2_ n3_ n4_; (try clear hb); (try clear hb2); (try clear hk); (try clear hi))))
            go_ret
            exact ⟨by first | rfl | (simp [errW_none, errW_some] <;> rfl) | (simp [*, errW_none, errW_some] <;> rfl), by repeat (first | (with_reducible first | exact HB.out | apply below_alloc | apply pw_below_drewN | apply below_drew1 | refine below_set ?_ GE452.out) | exact HB.out)⟩
def whetstonelaw08_BlocksLoops.Pure : Prop := ∀ (a0 : Bool), ∃ k, whetstonelaw08_BlocksLoops.f k a0 = some true
theorem whetstonelaw08_BlocksLoops.walk (P : whetstonelaw08_BlocksLoops.Pure) (a0 : Bool) (w : World)  :
  Calls Try.prog 10 #[.bool a0] w fun e w' => e = .returned (.bool true) ∧ Below w.heap.size w w' := by
 obtain ⟨k, h⟩ := P a0 
 refine (whetstonelaw08_BlocksLoops.calls k a0 true w h).mono ?_
 rintro e w' ⟨rfl, hd⟩
 exact ⟨rfl, hd⟩
end Go.Proofs.Ytekenddkoahjgaa.Q
