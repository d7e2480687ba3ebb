import Derived.Test.YtcjbdfhofpfooaaZQx0
import Derived.Test.YtcjbdfhofpfooaaZQx1
import Derived.Test.YtcjbdfhofpfooaaZQx2
import Derived.Test.YtcjbdfhofpfooaaZQx4
import Derived.Test.YtcjbdfhofpfooaaZQx6
import Derived.Test.YtcjbdfhofpfooaaZQx7
-- Written by this session's own driver (wip/tools/ownprint.py) over the kit's print: walks of the translated Go, each function once.
namespace Go.Proofs.Ytcjbdfhofpfooaa.Q
open Go.RowKit Go.Proofs.YtcjbdfhofpfooaaW.PrintWords Go.Proofs.YtcjbdfhofpfooaaW.PrintLast Go.Proofs.YtcjbdfhofpfooaaW.PrintMore
attribute [local go_sem] max2_int min2_int max_two min_two max_three min_three max_four min_four   -- for this text's walks alone
attribute [local go_sem] imax_u32 imax_u8 isg_u32 isg_u8
set_option linter.unusedVariables false
set_option linter.unusedSimpArgs false

attribute [local go_sem high] eqA25
/-! ### whetstoneref05_Same: function 21 -/
def whetstoneref05_Same.l0 : Nat → List (S25) → List (S25) → Int → Option (Bool)
  | 0, _, _, _ => none
  | k + 1, x0, x1, x5 => if x5 < (x0.length : Int) then (if 0 ≤ x5 then (if x5 < (x1.length : Int) then (if (!(((rd_T25 x0 x5).f0) == ((rd_T25 x1 x5).f0)) || (!(((rd_T25 x0 x5).f1) == ((rd_T25 x1 x5).f1)) || (!(((rd_T25 x0 x5).f2) == ((rd_T25 x1 x5).f2)) || (!(((rd_T25 x0 x5).f3) == ((rd_T25 x1 x5).f3)) || (!(((rd_T25 x0 x5).f4) == ((rd_T25 x1 x5).f4))))))) = true then (some false) else (whetstoneref05_Same.l0 k x0 x1 (wrap64 (x5 + 1)))) else (none)) else (none)) else (some true)
def whetstoneref05_Same.f (k : Nat) (l0 : List (S25)) (l1 : List (S25)) : Option (Bool) := if (l0.length : Int) = (l1.length : Int) then (whetstoneref05_Same.l0 k l0 l1 0) else (some false)
theorem whetstoneref05_Same.mono_l : ∀ k, (∀ y0 y1 y2, LeO (whetstoneref05_Same.l0 k y0 y1 y2) (whetstoneref05_Same.l0 (k + 1) y0 y1 y2))
  | 0 => fun _ _ _ r h => by simp [whetstoneref05_Same.l0] at h
  | k + 1 => by
    have ih0 := whetstoneref05_Same.mono_l k
    · intro y0 y1 y2
      unfold whetstoneref05_Same.l0
      repeat' first
      | (with_reducible exact ih0 _ _ _)
      | (with_reducible exact LeO.refl _)
      | (with_reducible exact LeO.none _)
      | (with_reducible refine LeO.ite ?_ ?_)
      | (with_reducible refine LeO.bind ?_ (fun _ => ?_))
      | exact ih0 _ _ _
      | exact LeO.none _
      | refine LeO.ite ?_ ?_
      | refine LeO.bind ?_ (fun _ => ?_)
theorem whetstoneref05_Same.mono : ∀ a0 a1 k, LeO (whetstoneref05_Same.f k a0 a1) (whetstoneref05_Same.f (k + 1) a0 a1) := by
  intro a0 a1 k
  have ih0 := whetstoneref05_Same.mono_l k
  unfold whetstoneref05_Same.f
  repeat' first
      | (with_reducible exact ih0 _ _ _)
      | (with_reducible exact LeO.refl _)
      | (with_reducible exact LeO.none _)
      | (with_reducible refine LeO.ite ?_ ?_)
      | (with_reducible refine LeO.bind ?_ (fun _ => ?_))
      | exact ih0 _ _ _
      | exact LeO.none _
      | refine LeO.ite ?_ ?_
      | refine LeO.bind ?_ (fun _ => ?_)
set_option maxHeartbeats 8000000 in
set_option maxRecDepth 100000 in
theorem whetstoneref05_Same.calls (k : Nat) (A0 : Option Addr) (c0 : Nat) (l0 : List (S25)) (A1 : Option Addr) (c1 : Nat) (l1 : List (S25)) (r : Bool) (w : World) (hr0 : Kd.C k25 w A0 l0.length l0) (hc0 : l0.length ≤ c0) (hr1 : Kd.C k25 w A1 l1.length l1) (hc1 : l1.length ≤ c1) (h : whetstoneref05_Same.f k l0 l1 = some r) :
    Calls Try.prog 21 #[.slice A0 l0.length c0, .slice A1 l1.length c1] w fun e w' => e = .returned (.bool r) ∧ Drawn0 w w' := by
  have hu25 := Try.underlying25
  have HR0 := Aside0.mk hr0
  have HC0 := Aside0.mk hc0
  clear hr0 hc0
  have HR1 := Aside0.mk hr1
  have HC1 := Aside0.mk hc1
  clear hr1 hc1
  have H : (if (l0.length : Int) = (l1.length : Int) then (whetstoneref05_Same.l0 k l0 l1 0) else (some false)) = some r := h
  clear h
  by_cases c3 : (l0.length : Int) = (l1.length : Int)
  · rw [if_pos c3] at H
    have c3b0 : ((l0.length : Int) == (l1.length : Int)) = true := beq_iff_eq.mpr c3
    have c3b1 : ((l0.length : Int) != (l1.length : Int)) = false := bne_eq_false_iff_eq.mpr c3
    have c3b2 : (l0.length == l1.length) = true := by first | simpa using c3 | (simp at c3 ⊢; omega)
    clear c3
    have H' := Aside0.mk H
    clear H
    go_enter Try.func21, Try.ntmps21
    go_wp2
    repeat (go_quiet (fail); try go_wp2)
    go_loopg [5] k (fun kq v5 w' => ∃ (x5_1 : Int), v5 = .int .i64 x5_1 ∧ Aside0 (whetstoneref05_Same.l0 kq l0 l1 x5_1 = some r) ∧ Aside0 (kq ≤ k) ∧ Drawn0 w w')
    case atStart => exact ⟨(0), (by first | rfl | (simp; done) | (simp [*]; done)), H', ⟨Nat.le_refl _⟩, by repeat (first | exact Drawn0.refl _ | apply Drawn0.step)⟩
    case round =>
      clear H'
      try clear c1
      try clear c2
      try clear p2
      try clear c3
      try clear c3b0
      try clear c3b1
      try clear c3b2
      obtain ⟨x5_1, rfl, HA, HK1, ⟨m1, rfl⟩⟩ := hrel
      cases gk with
      | zero => exact absurd HA.out (by simp [whetstoneref05_Same.l0])
      | succ k1 =>
        have H := HA.out
        clear HA
        simp only [whetstoneref05_Same.l0] at H
        by_cases c4 : x5_1 < (l0.length : Int)
        · rw [if_pos c4] at H
          have c4b0 : decide (x5_1 < (l0.length : Int)) = true := decide_eq_true c4
          clear c4
          by_cases c5 : 0 ≤ x5_1
          · rw [if_pos c5] at H
            have c5b0 : decide (0 ≤ x5_1) = true := decide_eq_true c5
            clear c5
            by_cases c6 : x5_1 < (l1.length : Int)
            · rw [if_pos c6] at H
              have c6b0 : decide (x5_1 < (l1.length : Int)) = true := decide_eq_true c6
              clear c6
              by_cases c7 : (!(((rd_T25 l0 x5_1).f0) == ((rd_T25 l1 x5_1).f0)) || (!(((rd_T25 l0 x5_1).f1) == ((rd_T25 l1 x5_1).f1)) || (!(((rd_T25 l0 x5_1).f2) == ((rd_T25 l1 x5_1).f2)) || (!(((rd_T25 l0 x5_1).f3) == ((rd_T25 l1 x5_1).f3)) || (!(((rd_T25 l0 x5_1).f4) == ((rd_T25 l1 x5_1).f4))))))) = true
              · rw [if_pos c7] at H
                have c7b0 : (!(((rd_T25 l0 x5_1).f0) == ((rd_T25 l1 x5_1).f0)) || (!(((rd_T25 l0 x5_1).f1) == ((rd_T25 l1 x5_1).f1)) || (!(((rd_T25 l0 x5_1).f2) == ((rd_T25 l1 x5_1).f2)) || (!(((rd_T25 l0 x5_1).f3) == ((rd_T25 l1 x5_1).f3)) || (!(((rd_T25 l0 x5_1).f4) == ((rd_T25 l1 x5_1).f4))))))) = true := c7
                clear c7
                obtain rfl := Option.some.inj H
                have p155 : 0 ≤ (x5_1 : Int) := of_decide_eq_true (by first | (with_reducible assumption) | assumption)
                have q155 : x5_1 < (l0.length : Int) := of_decide_eq_true (by first | (with_reducible assumption) | assumption)
                obtain ⟨ad155, e155, hx155_0, hx155_1, hx155_2, hx155_3, hx155_4⟩ := at_T25 HR0.out x5_1 p155 q155
                cases e155
                replace p155 := eq_true p155
                replace q155 := eq_true q155
                have p156 : 0 ≤ (x5_1 : Int) := of_decide_eq_true (by first | (with_reducible assumption) | assumption)
                have q156 : x5_1 < (l1.length : Int) := of_decide_eq_true (by first | (with_reducible assumption) | assumption)
                obtain ⟨ad156, e156, hx156_0, hx156_1, hx156_2, hx156_3, hx156_4⟩ := at_T25 HR1.out x5_1 p156 q156
                cases e156
                replace p156 := eq_true p156
                replace q156 := eq_true q156
                go_wp2
                repeat (go_quiet (fail); try go_wp2)
                go_ret
                exact ⟨by first | rfl | (simp; done) | (simp [*]; done), by repeat (first | exact Drawn0.refl _ | apply Drawn0.step)⟩
              · rw [if_neg c7] at H
                have c7b0 : (!(((rd_T25 l0 x5_1).f0) == ((rd_T25 l1 x5_1).f0)) || (!(((rd_T25 l0 x5_1).f1) == ((rd_T25 l1 x5_1).f1)) || (!(((rd_T25 l0 x5_1).f2) == ((rd_T25 l1 x5_1).f2)) || (!(((rd_T25 l0 x5_1).f3) == ((rd_T25 l1 x5_1).f3)) || (!(((rd_T25 l0 x5_1).f4) == ((rd_T25 l1 x5_1).f4))))))) = false := by simpa using c7
                clear c7
                have H' := Aside0.mk H
                clear H
                have p155 : 0 ≤ (x5_1 : Int) := of_decide_eq_true (by first | (with_reducible assumption) | assumption)
                have q155 : x5_1 < (l0.length : Int) := of_decide_eq_true (by first | (with_reducible assumption) | assumption)
                obtain ⟨ad155, e155, hx155_0, hx155_1, hx155_2, hx155_3, hx155_4⟩ := at_T25 HR0.out x5_1 p155 q155
                cases e155
                replace p155 := eq_true p155
                replace q155 := eq_true q155
                have p156 : 0 ≤ (x5_1 : Int) := of_decide_eq_true (by first | (with_reducible assumption) | assumption)
                have q156 : x5_1 < (l1.length : Int) := of_decide_eq_true (by first | (with_reducible assumption) | assumption)
                obtain ⟨ad156, e156, hx156_0, hx156_1, hx156_2, hx156_3, hx156_4⟩ := at_T25 HR1.out x5_1 p156 q156
                cases e156
                replace p156 := eq_true p156
                replace q156 := eq_true q156
                go_wp2
                repeat (go_quiet (fail); try go_wp2)
                go_roundg k1
                case measure => have := HK1.out; omega
                case rel => exact ⟨(wrap64 (x5_1 + 1)), (by first | rfl | (simp; done) | (simp [*]; done)), H', ⟨by have := HK1.out; omega⟩, by repeat (first | exact Drawn0.refl _ | apply Drawn0.step)⟩
            · rw [if_neg c6] at H
              exact absurd H (by simp)
          · rw [if_neg c5] at H
            exact absurd H (by simp)
        · rw [if_neg c4] at H
          have c4b0 : decide (x5_1 < (l0.length : Int)) = false := decide_eq_false c4
          clear c4
          obtain rfl := Option.some.inj H
          go_wp2
          repeat (go_quiet (fail); try go_wp2)
          go_ret
          exact ⟨by first | rfl | (simp; done) | (simp [*]; done), by repeat (first | exact Drawn0.refl _ | apply Drawn0.step)⟩
  · rw [if_neg c3] at H
    have c3b0 : ((l0.length : Int) == (l1.length : Int)) = false := beq_eq_false_iff_ne.mpr c3
    have c3b1 : ((l0.length : Int) != (l1.length : Int)) = true := bne_iff_ne.mpr c3
    have c3b2 : (l0.length == l1.length) = false := by first | simpa using c3 | (simp at c3 ⊢; omega)
    obtain rfl := Option.some.inj H
    go_enter Try.func21, Try.ntmps21
    go_wp2
    repeat (go_quiet (fail); try go_wp2)
    go_ret
    exact ⟨by first | rfl | (simp; done) | (simp [*]; done), by repeat (first | exact Drawn0.refl _ | apply Drawn0.step)⟩

-- NOT PRINTED: function 41 (api_Inst)

/-! ### grammar_Run: function 23 -/
def runR (ops regs imms : List Int) (len n : Int) : List Gm.In × Int := Gm.runv (chk ops regs imms len) (ins ops regs imms len) len n
def grammar_Run.f (l0_0 : List Int) (l0_1 : List Int) (l0_2 : List Int) (a0_3 : Int) (a1 : Int) : Option (List (S25) × Int) := if szL l0_0 l0_1 l0_2 ∧ a1 ≤ 9223372036854775807 then some ((runR l0_0 l0_1 l0_2 a0_3 a1).1.map toS, (runR l0_0 l0_1 l0_2 a0_3 a1).2) else none
theorem grammar_Run.calls (A0_0 : Option Addr) (c0_0 : Nat) (l0_0 : List Int) (A0_1 : Option Addr) (c0_1 : Nat) (l0_1 : List Int) (A0_2 : Option Addr) (c0_2 : Nat) (l0_2 : List Int) (a0_3 : Int) (a1 : Int) (r1 : List (S25)) (r2 : Int) (w : World) (hr0_0 : Kd.C (Kd.int .i64) w A0_0 l0_0.length l0_0) (hc0_0 : l0_0.length ≤ c0_0) (hr0_1 : Kd.C (Kd.int .i64) w A0_1 l0_1.length l0_1) (hc0_1 : l0_1.length ≤ c0_1) (hr0_2 : Kd.C (Kd.int .i64) w A0_2 l0_2.length l0_2) (hc0_2 : l0_2.length ≤ c0_2) (h : grammar_Run.f l0_0 l0_1 l0_2 a0_3 a1 = some (r1, r2)) :
    Calls Try.prog 23 #[.agg #[.slice A0_0 l0_0.length c0_0, .slice A0_1 l0_1.length c0_1, .slice A0_2 l0_2.length c0_2, .int .i64 a0_3], .int .i64 a1] w fun e w' => ∃ v0_ : Value, e = .returned (.tuple #[v0_, .int .i64 r2]) ∧ Kd.R k25 25 w' w.heap.size (fun _ => True) v0_ r1 ∧ Below w.heap.size w w' := by
  unfold grammar_Run.f at h
  split at h
  · rename_i hs
    obtain ⟨hs, hn⟩ := hs
    have h' := Option.some.inj h
    obtain rfl := congrArg Prod.fst h'
    obtain rfl := congrArg Prod.snd h'
    refine (Gm.Run_calls frm rgt knd formC rightC kindC _ _ _ _ _ _ _ _ _ a0_3 a1 w l0_0 l0_1 l0_2 (readN_of hr0_0) (readN_of hr0_1) (readN_of hr0_2) hs.1 hs.2.1 hs.2.2 hn).mono ?_
    rintro e w' ⟨v, rfl, hO, hb⟩
    exact ⟨v, rfl, R_of_own hO, hb⟩
  · cases h

/-! ### whetstonelaw18_small: function 32 -/
def whetstonelaw18_small.f  : Option (List Int × List Int × List Int × Int) := some ((([27] : List Int)), (([1, 2] : List Int)), ([] : List Int), 1)
set_option maxHeartbeats 8000000 in
set_option maxRecDepth 100000 in
theorem whetstonelaw18_small.calls  (r1 : List Int) (r2 : List Int) (r3 : List Int) (r4 : Int) (w : World) (h : whetstonelaw18_small.f  = some (r1, r2, r3, r4)) :
    Calls Try.prog 32 #[] w fun e w' => ∃ v0_ v1_ v2_ : Value, e = .returned (.agg #[v0_, v1_, v2_, .int .i64 r4]) ∧ Kd.R (Kd.int .i64) 3 w' w.heap.size (fun k_ => some k_ ≠ (v1_ : Value).ownBlock ∧ some k_ ≠ (v2_ : Value).ownBlock) v0_ r1 ∧ Kd.R (Kd.int .i64) 3 w' w.heap.size (fun k_ => some k_ ≠ (v0_ : Value).ownBlock ∧ some k_ ≠ (v2_ : Value).ownBlock) v1_ r2 ∧ Kd.R (Kd.int .i64) 3 w' w.heap.size (fun k_ => some k_ ≠ (v0_ : Value).ownBlock ∧ some k_ ≠ (v1_ : Value).ownBlock) v2_ r3 ∧ Below w.heap.size w w' := by
  have hu31 := Try.underlying31
  have HB := Aside0.mk (Below.refl w.heap.size w)
  have H : (some ((([27] : List Int)), (([1, 2] : List Int)), ([] : List Int), 1)) = some (r1, r2, r3, r4) := h
  clear h
  obtain ⟨y158, hy158⟩ : ∃ y_ : List Int, y_ = (([27] : List Int)) := ⟨_, rfl⟩
  replace H : (some (y158, (([1, 2] : List Int)), ([] : List Int), 1)) = some (r1, r2, r3, r4) := by first | (rw [hy158]; with_reducible exact H) | (have H2_ := (Option.bind_some _ _).symm.trans H; rw [hy158]; with_reducible exact H2_) | (have H2_ := (Option.bind_some _ _).symm.trans H; with_reducible exact H2_) | with_reducible exact H | (rw [hy158]; exact H) | exact H
  have Ny158 := Aside0.mk hy158
  clear hy158
  obtain ⟨y161, hy161⟩ : ∃ y_ : List Int, y_ = (([1, 2] : List Int)) := ⟨_, rfl⟩
  replace H : (some (y158, y161, ([] : List Int), 1)) = some (r1, r2, r3, r4) := by first | (rw [hy161]; with_reducible exact H) | (have H2_ := (Option.bind_some _ _).symm.trans H; rw [hy161]; with_reducible exact H2_) | (have H2_ := (Option.bind_some _ _).symm.trans H; with_reducible exact H2_) | with_reducible exact H | (rw [hy161]; exact H) | exact H
  have Ny161 := Aside0.mk hy161
  clear hy161
  simp only [Option.some.injEq, Prod.mk.injEq] at H
  obtain ⟨rfl, rfl, rfl, rfl⟩ := H
  go_enter Try.func32, Try.ntmps32
  go_wp2_with (first | ((with_reducible refine gate_dst (N := 0) rfl ?_); refine box_event ?hg (N := 0) ?hd (cs := #[.slice none 0 0, .slice none 0 0, .slice none 0 0, .int .i64 0]) (t := 31) ?hr ?_; (case hd => rfl); (case hg => rfl); (case hr => first | (go_simp; done) | (go_simp; rfl)); intro gb157 hg w1 hbox hb; have n0_ := Aside0.mk (below_step (by repeat (first | (with_reducible first | exact HB.out | apply below_alloc | apply pw_below_drewN | apply below_drew1) | exact HB.out)) hb); have n1_ := Aside0.mk (hbox); have n2_ := Aside0.mk ((by rw [hg]; exact (below_size (by repeat (first | (with_reducible first | exact HB.out | apply below_alloc | apply pw_below_drewN | apply below_drew1) | exact HB.out))) : w.heap.size ≤ gb157)); have n3_ := Aside0.mk ((by rw [hg]; exact (below_size (by repeat (first | (with_reducible first | exact HB.out | apply below_alloc | apply pw_below_drewN | apply below_drew1) | exact HB.out))) : w.heap.size ≤ gb157)); clear HB; have HB := n0_; have BK157 := n1_; have GW157 := n2_; have GE157 := n3_; clear n0_ n1_ n2_ n3_; clear hb hbox hg) | ((with_reducible refine gate_dst (N := 1) rfl ?_); refine Kd.R_lit (Kd.int .i64) _ 3 ?hg (N := 1) ?hd (xs := ([27] : List Int)) (inner := [.int .i64 27]) (ok := fun _ => True) (okp := fun _ => True) ?hr ?hp (fun _ hk => hk) trivial (Below.refl _ _) (Nat.le_refl _) (by simp) ?_; (case hd => rfl); (case hg => rfl); (case hr => first | (go_simp; done) | (go_simp; rfl)); (case hp => exact (Reps.one (show Kd.M (Kd.int .i64) _ _ _ 27 [.int .i64 27] from rfl) (Reps.none _ _))); intro v159 w2 ho3 hb hg_ hnew_; clear hg_ hnew_; (first | rw [← Ny158.out] at ho3 | (simp only [Int.reduceToNat] at ho3; rw [← Ny158.out] at ho3)); have n0_ := Aside0.mk (Kd.R_lower ho3 (below_size (by repeat (first | (with_reducible first | exact HB.out | apply below_alloc | apply pw_below_drewN | apply below_drew1 | refine below_set ?_ GE157.out) | exact HB.out)))); have n1_ := Aside0.mk (blk_below (g := gb157) (o := .cells #[.slice none 0 0, .slice none 0 0, .slice none 0 0, .int .i64 0] 31 (0, 0)) (by (with_reducible repeat (first | refine blk_drewN ?_ _ | refine blk_drew ?_ | refine blk_alloc ?_ _)); exact BK157.out) hb); have n2_ := Aside0.mk (below_step (by repeat (first | (with_reducible first | exact HB.out | apply below_alloc | apply pw_below_drewN | apply below_drew1 | refine below_set ?_ GE157.out) | exact HB.out)) hb); clear BK157; clear HB; have HO160 := n0_; have BK157 := n1_; have HB := n2_; clear n0_ n1_ n2_; clear hb ho3) | ((with_reducible refine gate_dst (N := 2) rfl ?_); refine Kd.R_lit (Kd.int .i64) _ 3 ?hg (N := 2) ?hd (xs := ([1, 2] : List Int)) (inner := [.int .i64 1, .int .i64 2]) (ok := fun _ => True) (okp := fun _ => True) ?hr ?hp (fun _ hk => hk) trivial (Below.refl _ _) (Nat.le_refl _) (by simp) ?_; (case hd => rfl); (case hg => rfl); (case hr => first | (go_simp; done) | (go_simp; rfl)); (case hp => exact (Reps.one (show Kd.M (Kd.int .i64) _ _ _ 1 [.int .i64 1] from rfl) (Reps.one (show Kd.M (Kd.int .i64) _ _ _ 2 [.int .i64 2] from rfl) (Reps.none _ _)))); intro v162 w4 ho5 hb hg_ hnew_; clear hg_ hnew_; (first | rw [← Ny161.out] at ho5 | (simp only [Int.reduceToNat] at ho5; rw [← Ny161.out] at ho5)); have n0_ := Aside0.mk (Kd.R_elder' (by (with_reducible repeat (first | apply Kd.R_alloc | apply Kd.R_drewN | apply Kd.R_drew)); exact HO160.out) (Kd.R_base ho5) hb); have n1_ := Aside0.mk (Kd.R_lower (Kd.R_new' ho5 (Kd.R_lt (by (with_reducible repeat (first | apply Kd.R_alloc | apply Kd.R_drewN | apply Kd.R_drew)); exact HO160.out))) (below_size (by repeat (first | (with_reducible first | exact HB.out | apply below_alloc | apply pw_below_drewN | apply below_drew1 | refine below_set ?_ GE157.out) | exact HB.out)))); have n2_ := Aside0.mk (blk_below (g := gb157) (o := .cells #[.slice none 0 0, .slice none 0 0, .slice none 0 0, .int .i64 0] 31 (0, 0)) (by (with_reducible repeat (first | refine blk_drewN ?_ _ | refine blk_drew ?_ | refine blk_alloc ?_ _)); exact BK157.out) hb); have n3_ := Aside0.mk (below_step (by repeat (first | (with_reducible first | exact HB.out | apply below_alloc | apply pw_below_drewN | apply below_drew1 | refine below_set ?_ GE157.out) | exact HB.out)) hb); clear HO160; clear BK157; clear HB; have HO160 := n0_; have HO163 := n1_; have BK157 := n2_; have HB := n3_; clear n0_ n1_ n2_ n3_; clear hb ho5; obtain ⟨Ao6, co6, eo6⟩ := Kd.R_slice HO163.out; subst eo6; obtain ⟨Ao7, co7, eo7⟩ := Kd.R_slice HO160.out; subst eo7; have hcz8_0 : w4.cell? ⟨gb157, 0, none⟩ = some (.slice none 0 0) := (blk_cell BK157.out 0).trans rfl; have hcz8_1 : w4.cell? ⟨gb157, 1, none⟩ = some (.slice none 0 0) := (blk_cell BK157.out 1).trans rfl; have hcz8_2 : w4.cell? ⟨gb157, 2, none⟩ = some (.slice none 0 0) := (blk_cell BK157.out 2).trans rfl; have hcz8_3 : w4.cell? ⟨gb157, 3, none⟩ = some (.int .i64 0) := (blk_cell BK157.out 3).trans rfl; have hfz8_0 := blk_frozen BK157.out 0; have hfz8_1 := blk_frozen BK157.out 1; have hfz8_2 := blk_frozen BK157.out 2; have hfz8_3 := blk_frozen BK157.out 3))
  refine bodyPost_ret (results_cell_row rfl _ _ gb157 31 #[.slice Ao7 y158.length co7, .slice Ao6 y161.length co6, .slice none 0 0, .int .i64 1] (0, 0) _ rfl (by (with_reducible repeat (first | refine blk_drewN ?_ _ | refine blk_drew ?_ | refine blk_alloc ?_ _)); refine blk_put (cs := #[.slice Ao7 y158.length co7, .slice Ao6 y161.length co6, .slice none 0 0, .int .i64 0]) ?_ 3 _ rfl; (with_reducible repeat (first | refine blk_drewN ?_ _ | refine blk_drew ?_ | refine blk_alloc ?_ _)); refine blk_put (cs := #[.slice Ao7 y158.length co7, .slice Ao6 y161.length co6, .slice none 0 0, .int .i64 0]) ?_ 2 _ rfl; (with_reducible repeat (first | refine blk_drewN ?_ _ | refine blk_drew ?_ | refine blk_alloc ?_ _)); refine blk_put (cs := #[.slice Ao7 y158.length co7, .slice none 0 0, .slice none 0 0, .int .i64 0]) ?_ 1 _ rfl; (with_reducible repeat (first | refine blk_drewN ?_ _ | refine blk_drew ?_ | refine blk_alloc ?_ _)); refine blk_put (cs := #[.slice none 0 0, .slice none 0 0, .slice none 0 0, .int .i64 0]) ?_ 0 _ rfl; (with_reducible repeat (first | refine blk_drewN ?_ _ | refine blk_drew ?_ | refine blk_alloc ?_ _)); exact BK157.out) Try.underlying31 rfl (by kernel_rfl)) rfl ?_
  exact ⟨_, _, _, by first | rfl | (simp [errW_none, errW_some] <;> rfl) | (simp [*, errW_none, errW_some] <;> rfl), by (with_reducible repeat (first | apply Kd.R_alloc | apply Kd.R_drewN | apply Kd.R_drew)); exact Kd.R_mono (Kd.R_far (p := ⟨gb157, 3, none⟩) (Kd.R_far (p := ⟨gb157, 2, none⟩) (Kd.R_far (p := ⟨gb157, 1, none⟩) (Kd.R_far (p := ⟨gb157, 0, none⟩) (Kd.R_types HO160.out BK157.out (by decide)) (fun _ hk => hk.2) (.slice Ao7 y158.length co7)) (fun _ hk => hk.2) (.slice Ao6 y161.length co6)) (fun _ hk => hk.2) (.slice none 0 0)) (fun _ hk => hk.2) (.int .i64 1)) (fun _ hk => ⟨hk.1.2, (by simp [Value.ownBlock])⟩), by (with_reducible repeat (first | apply Kd.R_alloc | apply Kd.R_drewN | apply Kd.R_drew)); exact Kd.R_mono (Kd.R_far (p := ⟨gb157, 3, none⟩) (Kd.R_far (p := ⟨gb157, 2, none⟩) (Kd.R_far (p := ⟨gb157, 1, none⟩) (Kd.R_far (p := ⟨gb157, 0, none⟩) (Kd.R_types HO163.out BK157.out (by decide)) (fun _ hk => hk.2) (.slice Ao7 y158.length co7)) (fun _ hk => hk.2) (.slice Ao6 y161.length co6)) (fun _ hk => hk.2) (.slice none 0 0)) (fun _ hk => hk.2) (.int .i64 1)) (fun _ hk => ⟨hk.1.2, (by simp [Value.ownBlock])⟩), by first | exact Kd.R_nil _ _ _ _ _ | exact Kd.N_nil _ _ _ _ _ | exact Kd.V_nil _ _ _ _ _ | exact Kd.Q_nil _ _ _ _ _ | exact Kd.S_nil _ _ _ _ _, by repeat (first | (with_reducible first | exact HB.out | apply below_alloc | apply pw_below_drewN | apply below_drew1 | refine below_set ?_ GE157.out) | exact HB.out)⟩

/-! ### whetstonelaw18_fixed: function 13 -/
/-- A grammar's three slices, read. -/
structure GrC (w : World) (A0 A1 A2 : Option Addr) (c0 c1 c2 : Nat) (l0 l1 l2 : List Int) : Prop where
  h0 : Kd.C (Kd.int .i64) w A0 l0.length l0
  k0 : l0.length ≤ c0
  h1 : Kd.C (Kd.int .i64) w A1 l1.length l1
  k1 : l1.length ≤ c1
  h2 : Kd.C (Kd.int .i64) w A2 l2.length l2
  k2 : l2.length ≤ c2
theorem GrC.below {w w' : World} {A0 A1 A2 : Option Addr} {c0 c1 c2 : Nat} {l0 l1 l2 : List Int} (h : GrC w A0 A1 A2 c0 c1 c2 l0 l1 l2) (hb : Below w.heap.size w w') : GrC w' A0 A1 A2 c0 c1 c2 l0 l1 l2 :=
  ⟨Kd.C_below h.h0 hb, h.k0, Kd.C_below h.h1 hb, h.k1, Kd.C_below h.h2 hb, h.k2⟩
theorem small_c (w : World) : Calls Try.prog 32 #[] w fun e w' => ∃ A0 A1 A2 c0 c1 c2, e = .returned (.agg #[.slice A0 1 c0, .slice A1 2 c1, .slice A2 0 c2, .int .i64 1]) ∧ GrC w' A0 A1 A2 c0 c1 c2 [27] [1, 2] [] ∧ Below w.heap.size w w' := by
  refine (whetstonelaw18_small.calls [27] [1, 2] [] 1 w rfl).mono ?_
  rintro e w' ⟨v0, v1, v2, rfl, h0, h1, h2, hb⟩
  obtain ⟨A0, c0, rfl, k0, r0⟩ := Kd.R_reads h0
  obtain ⟨A1, c1, rfl, k1, r1⟩ := Kd.R_reads h1
  obtain ⟨A2, c2, rfl, k2, r2⟩ := Kd.R_reads h2
  exact ⟨A0, A1, A2, c0, c1, c2, rfl, ⟨r0, k0, r1, k1, r2, k2⟩, hb⟩
section
variable {A0 A1 A2 : Option Addr} {c0 c1 c2 : Nat} {l0 l1 l2 : List Int} {w : World}
theorem Insts_c (hg : GrC w A0 A1 A2 c0 c1 c2 l0 l1 l2) (hs : szL l0 l1 l2) (m0 m1 m2 : Nat) (len : Int) (e0 : m0 = l0.length) (e1 : m1 = l1.length) (e2 : m2 = l2.length) : Calls Try.prog 19 #[.agg #[.slice A0 m0 c0, .slice A1 m1 c1, .slice A2 m2 c2, .int .i64 len]] w fun e w' => ∃ A c, e = .returned (.tuple #[.slice A (ins l0 l1 l2 len).length c, .int .i64 (chk l0 l1 l2 len)]) ∧ Kd.C k25 w' A (ins l0 l1 l2 len).length ((ins l0 l1 l2 len).map toS) ∧ Kd.R k25 25 w' w.heap.size (fun _ => True) (.slice A (ins l0 l1 l2 len).length c) ((ins l0 l1 l2 len).map toS) ∧ (ins l0 l1 l2 len).length ≤ c ∧ Below w.heap.size w w' := by
  subst e0 e1 e2
  refine (grammar_Insts.calls A0 c0 l0 A1 c1 l1 A2 c2 l2 len _ _ w hg.h0 hg.k0 hg.h1 hg.k1 hg.h2 hg.k2 (by unfold grammar_Insts.f; rw [if_pos hs])).mono ?_
  rintro e w' ⟨v, rfl, hR, hb⟩
  obtain ⟨A, c, hv, k, r⟩ := Kd.R_reads hR
  subst hv
  rw [List.length_map] at r k hR ⊢
  exact ⟨A, c, rfl, r, hR, k, hb⟩
theorem Run_c (hg : GrC w A0 A1 A2 c0 c1 c2 l0 l1 l2) (hs : szL l0 l1 l2) (m0 m1 m2 : Nat) (len n : Int) (hn : n ≤ 9223372036854775807) (e0 : m0 = l0.length) (e1 : m1 = l1.length) (e2 : m2 = l2.length) : Calls Try.prog 23 #[.agg #[.slice A0 m0 c0, .slice A1 m1 c1, .slice A2 m2 c2, .int .i64 len], .int .i64 n] w fun e w' => ∃ A c, e = .returned (.tuple #[.slice A (runR l0 l1 l2 len n).1.length c, .int .i64 (runR l0 l1 l2 len n).2]) ∧ Kd.C k25 w' A (runR l0 l1 l2 len n).1.length ((runR l0 l1 l2 len n).1.map toS) ∧ (runR l0 l1 l2 len n).1.length ≤ c ∧ Below w.heap.size w w' := by
  subst e0 e1 e2
  refine (grammar_Run.calls A0 c0 l0 A1 c1 l1 A2 c2 l2 len n _ _ w hg.h0 hg.k0 hg.h1 hg.k1 hg.h2 hg.k2 (by unfold grammar_Run.f; rw [if_pos ⟨hs, hn⟩])).mono ?_
  rintro e w' ⟨v, rfl, hR, hb⟩
  obtain ⟨A, c, hv, k, r⟩ := Kd.R_reads hR
  subst hv
  rw [List.length_map] at r k ⊢
  exact ⟨A, c, rfl, r, k, hb⟩
theorem Check_c (hg : GrC w A0 A1 A2 c0 c1 c2 l0 l1 l2) (hs : szL l0 l1 l2) (m0 m1 m2 : Nat) (len : Int) (e0 : m0 = l0.length) (e1 : m1 = l1.length) (e2 : m2 = l2.length) : Calls Try.prog 22 #[.agg #[.slice A0 m0 c0, .slice A1 m1 c1, .slice A2 m2 c2, .int .i64 len]] w fun e w' => e = .returned (.int .i64 (chk l0 l1 l2 len)) ∧ Below w.heap.size w w' := by
  subst e0 e1 e2
  exact grammar_Check.calls A0 c0 l0 A1 c1 l1 A2 c2 l2 len _ w hg.h0 hg.k0 hg.h1 hg.k1 hg.h2 hg.k2 (by unfold grammar_Check.f; rw [if_pos hs])
theorem Count_c (hg : GrC w A0 A1 A2 c0 c1 c2 l0 l1 l2) (m0 m1 m2 : Nat) (len r1 r2 : Int) (k : Nat) (hf : grammar_Count.f k l0 l1 l2 len = some (r1, r2)) (e0 : m0 = l0.length) (e1 : m1 = l1.length) (e2 : m2 = l2.length) : Calls Try.prog 20 #[.agg #[.slice A0 m0 c0, .slice A1 m1 c1, .slice A2 m2 c2, .int .i64 len]] w fun e w' => e = .returned (.tuple #[.int .i64 r1, .int .i64 r2]) ∧ Below w.heap.size w w' := by
  subst e0 e1 e2
  exact grammar_Count.calls k A0 c0 l0 A1 c1 l1 A2 c2 l2 len _ _ w hg.h0 hg.k0 hg.h1 hg.k1 hg.h2 hg.k2 hf
end
theorem fx1 : ins [27] [1, 2] [] 1 = [⟨27, 1, 1, 1, 0⟩, ⟨27, 1, 1, 2, 0⟩, ⟨27, 1, 2, 1, 0⟩, ⟨27, 1, 2, 2, 0⟩, ⟨27, 2, 1, 1, 0⟩, ⟨27, 2, 1, 2, 0⟩, ⟨27, 2, 2, 1, 0⟩, ⟨27, 2, 2, 2, 0⟩] := by decide +kernel
theorem fx2 : chk [27] [1, 2] [] 1 = 0 := by decide +kernel
theorem fx3 : runR [27] [1, 2] [] 1 0 = ([], 0) ∧ runR [27] [1, 2] [] 1 1 = ([⟨27, 1, 1, 1, 0⟩], 0) ∧ runR [27] [1, 2] [] 1 9 = ([], 1) := by decide +kernel
theorem fx4 : grammar_Count.f 20 [27] [1, 2] [] 1 = some (9, 0) := by decide +kernel
theorem fx5 : chk [12] [] [] 0 = 180 := by decide +kernel
theorem lit1 (w : World) : Kd.C k25 (w.alloc (.cells #[.int .i64 27, .int .i64 1, .int .i64 1, .int .i64 1, .int .i64 0] 25)) (some ⟨w.heap.size, 0, none⟩) ([(⟨27, 1, 1, 1, 0⟩ : S25)] : List _).length [(⟨27, 1, 1, 1, 0⟩ : S25)] := by
  have h2 := World.ownsRow_lit (base := w.heap.size) (e := 25) (size := 5) w #[.int .i64 27, .int .i64 1, .int .i64 1, .int .i64 1, .int .i64 0] 1 (Nat.le_refl _) (by decide) (by rfl)
  have hR : Kd.R k25 25 (w.alloc (.cells #[.int .i64 27, .int .i64 1, .int .i64 1, .int .i64 1, .int .i64 0] 25)) w.heap.size (fun _ => True) (.slice (some ⟨w.heap.size, 0, none⟩) 1 1) [(⟨27, 1, 1, 1, 0⟩ : S25)] :=
    ⟨fun _ _ => trivial, _, h2, by
      refine ⟨rfl, fun j p hj => ?_⟩
      match j, hj with
      | 0, hj =>
        cases hj
        exact ⟨[_], _, rfl, rfl, [_], _, rfl, rfl, [_], _, rfl, rfl, [_], [_], rfl, rfl, rfl⟩
      | j + 1, hj => simp at hj⟩
  exact (Kd.R_reads' hR).2.2
theorem lit2 (w : World) : Kd.C (Kd.int .i64) (w.alloc (.cells #[.int .i64 12] 3)) (some ⟨w.heap.size, 0, none⟩) ([12] : List Int).length [12] := by
  have h2 := World.ownsRow_lit (base := w.heap.size) (e := 3) (size := 1) w #[.int .i64 12] 1 (Nat.le_refl _) (by decide) (by rfl)
  have hR : Kd.R (Kd.int .i64) 3 (w.alloc (.cells #[.int .i64 12] 3)) w.heap.size (fun _ => True) (.slice (some ⟨w.heap.size, 0, none⟩) 1 1) [12] :=
    ⟨fun _ _ => trivial, _, h2, Reps.one (show Kd.M (Kd.int .i64) _ _ _ 12 [.int .i64 12] from rfl) (Reps.none _ _)⟩
  exact (Kd.R_reads' hR).2.2
theorem fx6 : whetstoneref05_Same.f 9 (List.map toS [(⟨27, 1, 1, 1, 0⟩ : Gm.In)]) [(⟨27, 1, 1, 1, 0⟩ : S25)] = some true := by decide +kernel
theorem fx7 : grammar_Cost.f 9 18 0 0 0 0 = some 0 ∧ grammar_Cost.f 9 41 0 0 0 0 = some 20 ∧ grammar_Cost.f 9 (-1) 0 0 0 0 = some 1000 := by decide +kernel
theorem fx8 : grammar_Sum.f 9 (List.map toS [(⟨27, 1, 1, 1, 0⟩ : Gm.In)]) = some 1 := by decide +kernel
theorem kc_nil {w : World} {v : Option Addr} : Kd.C (Kd.int .i64) w v ([] : List Int).length [] := ⟨rfl, by decide, fun h => by cases h⟩
set_option maxHeartbeats 8000000 in
set_option maxRecDepth 100000 in
theorem fixed_c (w : World) : Calls Try.prog 13 #[] w fun e w' => e = .returned (.bool true) ∧ Below w.heap.size w w' := by
  go_enter Try.func13, Try.ntmps13
  go_wp2_with (go_at_call 32; refine Gm.hold_ ?_)
  intro _
  refine (small_c _).mono ?_
  rintro e w1 ⟨A0, A1, A2, c0, c1, c2, rfl, hg, hb⟩
  have HG := Aside0.mk hg
  have HB := Aside0.mk hb
  clear hg hb
  go_wp2_with (go_at_call 19; refine Gm.hold_ ?_)
  intro _
  have h := Insts_c HG.out (by decide) 1 2 0 1 rfl rfl rfl
  rw [fx1, fx2] at h
  refine h.mono ?_
  clear h
  rintro e w2 ⟨Ai, ci, rfl, _, _, _, hb⟩
  have NB := Aside0.mk (below_step HB.out hb)
  clear HB hb HG
  have HB := NB
  clear NB
  go_wp2_with (go_at_call 32; refine Gm.hold_ ?_)
  intro _
  refine (small_c _).mono ?_
  rintro e w3 ⟨B0, B1, B2, d0, d1, d2, rfl, hg, hb⟩
  have HG := Aside0.mk hg
  have NB := Aside0.mk (below_step HB.out hb)
  clear HB hb hg
  have HB := NB
  clear NB
  go_wp2_with (go_at_call 20; refine Gm.hold_ ?_)
  intro _
  refine (Count_c HG.out 1 2 0 1 9 0 20 fx4 rfl rfl rfl).mono ?_
  rintro e w4 ⟨rfl, hb⟩
  have NB := Aside0.mk (below_step HB.out hb)
  clear HB hb HG
  have HB := NB
  clear NB
  go_wp2_with (go_at_call 32; refine Gm.hold_ ?_)
  intro _
  refine (small_c _).mono ?_
  rintro e w5 ⟨C0, C1, C2, e0, e1, e2, rfl, hg, hb⟩
  have HG := Aside0.mk hg
  have NB := Aside0.mk (below_step HB.out hb)
  clear HB hb hg
  have HB := NB
  clear NB
  go_wp2_with (go_at_call 23; refine Gm.hold_ ?_)
  intro _
  have h := Run_c HG.out (by decide) 1 2 0 1 0 (by decide) rfl rfl rfl
  rw [fx3.1] at h
  refine h.mono ?_
  clear h
  rintro e w6 ⟨Aa, ca, rfl, _, _, hb⟩
  have NB := Aside0.mk (below_step HB.out hb)
  clear HB hb HG
  have HB := NB
  clear NB
  go_wp2_with (go_at_call 32; refine Gm.hold_ ?_)
  intro _
  refine (small_c _).mono ?_
  rintro e w7 ⟨D0, D1, D2, g0, g1, g2, rfl, hg, hb⟩
  have HG := Aside0.mk hg
  have NB := Aside0.mk (below_step HB.out hb)
  clear HB hb hg
  have HB := NB
  clear NB
  go_wp2_with (go_at_call 23; refine Gm.hold_ ?_)
  intro _
  have h := Run_c HG.out (by decide) 1 2 0 1 1 (by decide) rfl rfl rfl
  rw [fx3.2.1] at h
  refine h.mono ?_
  clear h
  rintro e w8 ⟨Ab, cb, rfl, hbC, hbk, hb⟩
  have HBC := Aside0.mk hbC
  have HBK := Aside0.mk hbk
  have NB := Aside0.mk (below_step HB.out hb)
  clear HB hb HG hbC hbk
  have HB := NB
  clear NB
  go_wp2_with (go_at_call 32; refine Gm.hold_ ?_)
  intro _
  refine (small_c _).mono ?_
  rintro e w9 ⟨E0, E1, E2, i0, i1, i2, rfl, hg, hb⟩
  have HG := Aside0.mk hg
  have NBC := Aside0.mk (Kd.C_below HBC.out hb)
  have NB := Aside0.mk (below_step HB.out hb)
  clear HB hb hg HBC
  have HB := NB
  have HBC := NBC
  clear NB NBC
  go_wp2_with (go_at_call 23; refine Gm.hold_ ?_)
  intro _
  have h := Run_c HG.out (by decide) 1 2 0 1 9 (by decide) rfl rfl rfl
  rw [fx3.2.2] at h
  refine h.mono ?_
  clear h
  rintro e w10 ⟨Ac, cc, rfl, _, _, hb⟩
  have NBC := Aside0.mk (Kd.C_below HBC.out hb)
  have NB := Aside0.mk (below_step HB.out hb)
  clear HB hb HG HBC
  have HB := NB
  have HBC := NBC
  clear NB NBC
  go_wp2_with (go_at_call 21; refine Gm.hold_ ?_)
  intro _
  have H1 := lit1 w10
  refine (whetstoneref05_Same.calls 9 Ab cb _ _ 1 _ true _ (Kd.C_alloc HBC.out _) HBK.out H1 (Nat.le_refl _) fx6).mono ?_
  rintro e w11 ⟨rfl, hd⟩
  clear H1
  have NBC := Aside0.mk (Kd.C_below (Kd.C_alloc HBC.out _) hd.below)
  have NB := Aside0.mk (below_step (below_alloc HB.out _) hd.below)
  clear HB hd HBC
  have HB := NB
  have HBC := NBC
  clear NB NBC
  go_wp2_with (go_at_call 27; refine Gm.hold_ ?_)
  intro _
  refine (grammar_Nop.calls _ _ _ _ _ _ rfl).mono ?_
  rintro e w12 ⟨rfl, hb⟩
  have NBC := Aside0.mk (Kd.C_below HBC.out hb)
  have NB := Aside0.mk (below_step HB.out hb)
  clear HB hb HBC
  have HB := NB
  have HBC := NBC
  clear NB NBC
  go_wp2_with (go_at_call 27; refine Gm.hold_ ?_)
  intro _
  refine (grammar_Nop.calls _ _ _ _ _ _ rfl).mono ?_
  rintro e w12 ⟨rfl, hb⟩
  have NBC := Aside0.mk (Kd.C_below HBC.out hb)
  have NB := Aside0.mk (below_step HB.out hb)
  clear HB hb HBC
  have HB := NB
  have HBC := NBC
  clear NB NBC
  go_wp2_with (go_at_call 11; refine Gm.hold_ ?_)
  intro _
  refine (grammar_Cost.calls 9 _ _ _ _ _ _ _ fx7.1).mono ?_
  rintro e w12 ⟨rfl, hb⟩
  have NBC := Aside0.mk (Kd.C_below HBC.out hb)
  have NB := Aside0.mk (below_step HB.out hb)
  clear HB hb HBC
  have HB := NB
  have HBC := NBC
  clear NB NBC
  go_wp2_with (go_at_call 11; refine Gm.hold_ ?_)
  intro _
  refine (grammar_Cost.calls 9 _ _ _ _ _ _ _ fx7.2.1).mono ?_
  rintro e w12 ⟨rfl, hb⟩
  have NBC := Aside0.mk (Kd.C_below HBC.out hb)
  have NB := Aside0.mk (below_step HB.out hb)
  clear HB hb HBC
  have HB := NB
  have HBC := NBC
  clear NB NBC
  go_wp2_with (go_at_call 11; refine Gm.hold_ ?_)
  intro _
  refine (grammar_Cost.calls 9 _ _ _ _ _ _ _ fx7.2.2).mono ?_
  rintro e w12 ⟨rfl, hb⟩
  have NBC := Aside0.mk (Kd.C_below HBC.out hb)
  have NB := Aside0.mk (below_step HB.out hb)
  clear HB hb HBC
  have HB := NB
  have HBC := NBC
  clear NB NBC
  go_wp2_with (go_at_call 14; refine Gm.hold_ ?_)
  intro _
  refine (grammar_Sum.calls 9 Ab cb _ _ _ HBC.out HBK.out fx8).mono ?_
  rintro e w12 ⟨rfl, hb⟩
  have NB := Aside0.mk (below_step HB.out hb)
  clear HB hb
  have HB := NB
  clear NB
  go_wp2_with (go_at_call 22; refine Gm.hold_ ?_)
  intro _
  have H1 := lit2 w12
  have h := Check_c (⟨H1, Nat.le_refl _, kc_nil, Nat.zero_le _, kc_nil, Nat.zero_le _⟩ : GrC _ (some ⟨w12.heap.size, 0, none⟩) none none 1 0 0 [12] [] []) (by decide) 1 0 0 0 rfl rfl rfl
  rw [fx5] at h
  refine h.mono ?_
  clear h H1
  rintro e w13 ⟨rfl, hb⟩
  have NB := Aside0.mk (below_step (below_alloc HB.out _) hb)
  clear HB hb
  go_wp2
  go_ret
  exact ⟨rfl, NB.out⟩
def whetstonelaw18_fixed.f : Option Bool := some true
theorem whetstonelaw18_fixed.calls (r : Bool) (w : World) (h : whetstonelaw18_fixed.f = some r) : Calls Try.prog 13 #[] w fun e w' => e = .returned (.bool r) ∧ Below w.heap.size w w' := by
  cases h
  exact fixed_c w

end Go.Proofs.Ytcjbdfhofpfooaa.Q
