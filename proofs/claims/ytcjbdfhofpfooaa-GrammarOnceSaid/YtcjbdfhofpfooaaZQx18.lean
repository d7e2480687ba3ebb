import Derived.Test.YtcjbdfhofpfooaaZQx0
import Derived.Test.YtcjbdfhofpfooaaZQx1
import Derived.Test.YtcjbdfhofpfooaaZQx2
import Derived.Test.YtcjbdfhofpfooaaZQx6
import Derived.Test.YtcjbdfhofpfooaaZQx8
-- Written by this session's own driver (wip/tools/ownprint.py) over the kit's print: walks of the translated Go, each function once.
namespace Go.Proofs.Ytcjbdfhofpfooaa.Q
open Go.RowKit Go.Proofs.YtcjbdfhofpfooaaW.PrintWords Go.Proofs.YtcjbdfhofpfooaaW.PrintLast Go.Proofs.YtcjbdfhofpfooaaW.PrintMore
attribute [local go_sem] max2_int min2_int max_two min_two max_three min_three max_four min_four   -- for this text's walks alone
attribute [local go_sem] imax_u32 imax_u8 isg_u32 isg_u8
set_option linter.unusedVariables false
set_option linter.unusedSimpArgs false

attribute [local go_sem high] eqA25
/-! ### whetstonelaw18_place: function 26 -/
def whetstonelaw18_place.l0 : Nat → List (S25) → Int → Int → Int → Int → Int → Int → Option (Int)
  | 0, _, _, _, _, _, _, _ => none
  | k + 1, x0, x5, x287000, x287001, x287002, x287003, x287004 => if x5 < (x0.length : Int) then (if 0 ≤ x5 then (if (((rd_T25 x0 x5).f0) == x287000 && (((rd_T25 x0 x5).f1) == x287001 && (((rd_T25 x0 x5).f2) == x287002 && (((rd_T25 x0 x5).f3) == x287003 && (((rd_T25 x0 x5).f4) == x287004))))) = true then (some x5) else (whetstonelaw18_place.l0 k x0 (wrap64 (x5 + 1)) x287000 x287001 x287002 x287003 x287004)) else (none)) else (some (x0.length : Int))
def whetstonelaw18_place.f (k : Nat) (l0 : List (S25)) (a1_0 : Int) (a1_1 : Int) (a1_2 : Int) (a1_3 : Int) (a1_4 : Int) : Option (Int) := whetstonelaw18_place.l0 k l0 0 a1_0 a1_1 a1_2 a1_3 a1_4
theorem whetstonelaw18_place.mono_l : ∀ k, (∀ y0 y1 y2 y3 y4 y5 y6, LeO (whetstonelaw18_place.l0 k y0 y1 y2 y3 y4 y5 y6) (whetstonelaw18_place.l0 (k + 1) y0 y1 y2 y3 y4 y5 y6))
  | 0 => fun _ _ _ _ _ _ _ r h => by simp [whetstonelaw18_place.l0] at h
  | k + 1 => by
    have ih0 := whetstonelaw18_place.mono_l k
    · intro y0 y1 y2 y3 y4 y5 y6
      unfold whetstonelaw18_place.l0
      repeat' first
      | (with_reducible exact ih0 _ _ _ _ _ _ _)
      | (with_reducible exact LeO.refl _)
      | (with_reducible exact LeO.none _)
      | (with_reducible refine LeO.ite ?_ ?_)
      | (with_reducible refine LeO.bind ?_ (fun _ => ?_))
      | exact ih0 _ _ _ _ _ _ _
      | exact LeO.none _
      | refine LeO.ite ?_ ?_
      | refine LeO.bind ?_ (fun _ => ?_)
theorem whetstonelaw18_place.mono : ∀ a0 a1 a2 a3 a4 a5 k, LeO (whetstonelaw18_place.f k a0 a1 a2 a3 a4 a5) (whetstonelaw18_place.f (k + 1) a0 a1 a2 a3 a4 a5) := by
  intro a0 a1 a2 a3 a4 a5 k
  have ih0 := whetstonelaw18_place.mono_l k
  unfold whetstonelaw18_place.f
  repeat' first
      | (with_reducible exact ih0 _ _ _ _ _ _ _)
      | (with_reducible exact LeO.refl _)
      | (with_reducible exact LeO.none _)
      | (with_reducible refine LeO.ite ?_ ?_)
      | (with_reducible refine LeO.bind ?_ (fun _ => ?_))
      | exact ih0 _ _ _ _ _ _ _
      | exact LeO.none _
      | refine LeO.ite ?_ ?_
      | refine LeO.bind ?_ (fun _ => ?_)
set_option maxHeartbeats 8000000 in
set_option maxRecDepth 100000 in
theorem whetstonelaw18_place.calls (k : Nat) (A0 : Option Addr) (c0 : Nat) (l0 : List (S25)) (a1_0 : Int) (a1_1 : Int) (a1_2 : Int) (a1_3 : Int) (a1_4 : Int) (r : Int) (w : World) (hr0 : Kd.C k25 w A0 l0.length l0) (hc0 : l0.length ≤ c0) (h : whetstonelaw18_place.f k l0 a1_0 a1_1 a1_2 a1_3 a1_4 = some r) :
    Calls Try.prog 26 #[.slice A0 l0.length c0, .agg #[.int .i64 a1_0, .int .i64 a1_1, .int .i64 a1_2, .int .i64 a1_3, .int .i64 a1_4]] w fun e w' => e = .returned (.int .i64 r) ∧ Below w.heap.size w w' := by
  have hu25 := Try.underlying25
  have HR0 := Aside0.mk hr0
  have HC0 := Aside0.mk hc0
  clear hr0 hc0
  have HB := Aside0.mk (Below.refl w.heap.size w)
  have H : (whetstonelaw18_place.l0 k l0 0 a1_0 a1_1 a1_2 a1_3 a1_4) = some r := h
  clear h
  have H' := Aside0.mk H
  clear H
  go_enter Try.func26, Try.ntmps26
  go_wp2_with (first | ((with_reducible refine gate_dst (N := 3) rfl ?_); refine box_event ?hg (N := 3) ?hd (cs := #[.int .i64 a1_0, .int .i64 a1_1, .int .i64 a1_2, .int .i64 a1_3, .int .i64 a1_4]) (t := 25) ?hr ?_; (case hd => rfl); (case hg => rfl); (case hr => first | (go_simp; done) | (go_simp; rfl)); intro gb286 hg w3 hbox hb; have n0_ := Aside0.mk (below_step (by repeat (first | (with_reducible first | exact HB.out | apply below_alloc | apply pw_below_drewN | apply below_drew1) | exact HB.out)) hb); have n1_ := Aside0.mk (hbox); have n2_ := Aside0.mk ((by rw [hg]; exact (below_size (by repeat (first | (with_reducible first | exact HB.out | apply below_alloc | apply pw_below_drewN | apply below_drew1) | exact HB.out))) : w.heap.size ≤ gb286)); have n3_ := Aside0.mk ((by rw [hg]; exact (below_size (by repeat (first | (with_reducible first | exact HB.out | apply below_alloc | apply pw_below_drewN | apply below_drew1) | exact HB.out))) : w.heap.size ≤ gb286)); clear HB; have HB := n0_; have BK286 := n1_; have GW286 := n2_; have GE286 := n3_; clear n0_ n1_ n2_ n3_; clear hb hbox hg))
  repeat (go_quiet (first | ((with_reducible refine gate_dst (N := 3) rfl ?_); refine box_event ?hg (N := 3) ?hd (cs := #[.int .i64 a1_0, .int .i64 a1_1, .int .i64 a1_2, .int .i64 a1_3, .int .i64 a1_4]) (t := 25) ?hr ?_; (case hd => rfl); (case hg => rfl); (case hr => first | (go_simp; done) | (go_simp; rfl)); intro gb286 hg w3 hbox hb; have n0_ := Aside0.mk (below_step (by repeat (first | (with_reducible first | exact HB.out | apply below_alloc | apply pw_below_drewN | apply below_drew1) | exact HB.out)) hb); have n1_ := Aside0.mk (hbox); have n2_ := Aside0.mk ((by rw [hg]; exact (below_size (by repeat (first | (with_reducible first | exact HB.out | apply below_alloc | apply pw_below_drewN | apply below_drew1) | exact HB.out))) : w.heap.size ≤ gb286)); have n3_ := Aside0.mk ((by rw [hg]; exact (below_size (by repeat (first | (with_reducible first | exact HB.out | apply below_alloc | apply pw_below_drewN | apply below_drew1) | exact HB.out))) : w.heap.size ≤ gb286)); clear HB; have HB := n0_; have BK286 := n1_; have GW286 := n2_; have GE286 := n3_; clear n0_ n1_ n2_ n3_; clear hb hbox hg)); try go_wp2_with (first | ((with_reducible refine gate_dst (N := 3) rfl ?_); refine box_event ?hg (N := 3) ?hd (cs := #[.int .i64 a1_0, .int .i64 a1_1, .int .i64 a1_2, .int .i64 a1_3, .int .i64 a1_4]) (t := 25) ?hr ?_; (case hd => rfl); (case hg => rfl); (case hr => first | (go_simp; done) | (go_simp; rfl)); intro gb286 hg w3 hbox hb; have n0_ := Aside0.mk (below_step (by repeat (first | (with_reducible first | exact HB.out | apply below_alloc | apply pw_below_drewN | apply below_drew1) | exact HB.out)) hb); have n1_ := Aside0.mk (hbox); have n2_ := Aside0.mk ((by rw [hg]; exact (below_size (by repeat (first | (with_reducible first | exact HB.out | apply below_alloc | apply pw_below_drewN | apply below_drew1) | exact HB.out))) : w.heap.size ≤ gb286)); have n3_ := Aside0.mk ((by rw [hg]; exact (below_size (by repeat (first | (with_reducible first | exact HB.out | apply below_alloc | apply pw_below_drewN | apply below_drew1) | exact HB.out))) : w.heap.size ≤ gb286)); clear HB; have HB := n0_; have BK286 := n1_; have GW286 := n2_; have GE286 := n3_; clear n0_ n1_ n2_ n3_; clear hb hbox hg)))
  go_loopg [5] k (fun kq v5 w' => ∃ (x5_1 : Int), v5 = .int .i64 x5_1 ∧ Aside0 (whetstonelaw18_place.l0 kq l0 x5_1 a1_0 a1_1 a1_2 a1_3 a1_4 = some r) ∧ Aside0 (kq ≤ k) ∧ Aside0 (w'.heap[gb286]? = some (.cells #[.int .i64 a1_0, .int .i64 a1_1, .int .i64 a1_2, .int .i64 a1_3, .int .i64 a1_4] 25 (0, 0))) ∧ Aside0 (Below w.heap.size w w'))
  case atStart => exact ⟨(0), (by first | rfl | (simp; done) | (simp [*]; done)), H', ⟨Nat.le_refl _⟩, ⟨by (with_reducible repeat (first | refine blk_drewN ?_ _ | refine blk_drew ?_ | refine blk_alloc ?_ _)); exact BK286.out⟩, ⟨by repeat (first | (with_reducible first | exact HB.out | apply below_alloc | apply pw_below_drewN | apply below_drew1 | refine below_set ?_ GE286.out) | exact HB.out)⟩⟩
  case round =>
    clear H'
    try clear c2
    try clear p2
    obtain ⟨x5_1, rfl, HA, HK1, BK286, HB⟩ := hrel
    cases gk with
    | zero => exact absurd HA.out (by simp [whetstonelaw18_place.l0])
    | succ k1 =>
      have H := HA.out
      clear HA
      simp only [whetstonelaw18_place.l0] at H
      by_cases c4 : x5_1 < (l0.length : Int)
      · rw [if_pos c4] at H
        have c4b0 : decide (x5_1 < (l0.length : Int)) = true := decide_eq_true c4
        clear c4
        by_cases c5 : 0 ≤ x5_1
        · rw [if_pos c5] at H
          have c5b0 : decide (0 ≤ x5_1) = true := decide_eq_true c5
          clear c5
          by_cases c6 : (((rd_T25 l0 x5_1).f0) == a1_0 && (((rd_T25 l0 x5_1).f1) == a1_1 && (((rd_T25 l0 x5_1).f2) == a1_2 && (((rd_T25 l0 x5_1).f3) == a1_3 && (((rd_T25 l0 x5_1).f4) == a1_4))))) = true
          · rw [if_pos c6] at H
            have c6b0 : (((rd_T25 l0 x5_1).f0) == a1_0 && (((rd_T25 l0 x5_1).f1) == a1_1 && (((rd_T25 l0 x5_1).f2) == a1_2 && (((rd_T25 l0 x5_1).f3) == a1_3 && (((rd_T25 l0 x5_1).f4) == a1_4))))) = true := c6
            (try (have c6b1 : decide (((rd_T25 l0 x5_1).f0) = a1_0 && (((rd_T25 l0 x5_1).f1) == a1_1 && (((rd_T25 l0 x5_1).f2) == a1_2 && (((rd_T25 l0 x5_1).f3) == a1_3 && (((rd_T25 l0 x5_1).f4) == a1_4))))) = true := by simpa using c6))
            (try (have c6b2 : (((rd_T25 l0 x5_1).f0) == a1_0 && (((rd_T25 l0 x5_1).f1) == a1_1 && (((rd_T25 l0 x5_1).f2) == a1_2 && (((rd_T25 l0 x5_1).f3) == a1_3 && (((rd_T25 l0 x5_1).f4) == a1_4))))) = true := by simpa using c6))
            clear c6
            obtain rfl := Option.some.inj H
            have p287 : 0 ≤ (x5_1 : Int) := of_decide_eq_true (by first | (with_reducible assumption) | assumption)
            have q287 : x5_1 < (l0.length : Int) := of_decide_eq_true (by first | (with_reducible assumption) | assumption)
            obtain ⟨ad287, e287, hx287_0, hx287_1, hx287_2, hx287_3, hx287_4⟩ := at_T25 HR0.out x5_1 p287 q287
            cases e287
            replace hx287_0 := (HB.out.cell (World.block_lt_of_cell? w _ hx287_0)).trans hx287_0
            replace hx287_1 := (HB.out.cell (World.block_lt_of_cell? w _ hx287_1)).trans hx287_1
            replace hx287_2 := (HB.out.cell (World.block_lt_of_cell? w _ hx287_2)).trans hx287_2
            replace hx287_3 := (HB.out.cell (World.block_lt_of_cell? w _ hx287_3)).trans hx287_3
            replace hx287_4 := (HB.out.cell (World.block_lt_of_cell? w _ hx287_4)).trans hx287_4
            replace p287 := eq_true p287
            replace q287 := eq_true q287
            have hcz7_0 : wr.cell? ⟨gb286, 0, none⟩ = some (.int .i64 a1_0) := (blk_cell BK286.out 0).trans rfl
            have hcz7_1 : wr.cell? ⟨gb286, 1, none⟩ = some (.int .i64 a1_1) := (blk_cell BK286.out 1).trans rfl
            have hcz7_2 : wr.cell? ⟨gb286, 2, none⟩ = some (.int .i64 a1_2) := (blk_cell BK286.out 2).trans rfl
            have hcz7_3 : wr.cell? ⟨gb286, 3, none⟩ = some (.int .i64 a1_3) := (blk_cell BK286.out 3).trans rfl
            have hcz7_4 : wr.cell? ⟨gb286, 4, none⟩ = some (.int .i64 a1_4) := (blk_cell BK286.out 4).trans rfl
            have hfz7_0 := blk_frozen BK286.out 0
            have hfz7_1 := blk_frozen BK286.out 1
            have hfz7_2 := blk_frozen BK286.out 2
            have hfz7_3 := blk_frozen BK286.out 3
            have hfz7_4 := blk_frozen BK286.out 4
            go_wp2
            repeat (go_quiet (fail); try go_wp2)
            go_ret
            exact ⟨by first | rfl | (simp [errW_none, errW_some] <;> rfl) | (simp [*, errW_none, errW_some] <;> rfl), by repeat (first | (with_reducible first | exact HB.out | apply below_alloc | apply pw_below_drewN | apply below_drew1 | refine below_set ?_ GE286.out) | exact HB.out)⟩
          · rw [if_neg c6] at H
            have c6b0 : (((rd_T25 l0 x5_1).f0) == a1_0 && (((rd_T25 l0 x5_1).f1) == a1_1 && (((rd_T25 l0 x5_1).f2) == a1_2 && (((rd_T25 l0 x5_1).f3) == a1_3 && (((rd_T25 l0 x5_1).f4) == a1_4))))) = false := by simpa using c6
            (try (have c6b1 : decide (((rd_T25 l0 x5_1).f0) = a1_0 && (((rd_T25 l0 x5_1).f1) == a1_1 && (((rd_T25 l0 x5_1).f2) == a1_2 && (((rd_T25 l0 x5_1).f3) == a1_3 && (((rd_T25 l0 x5_1).f4) == a1_4))))) = false := by simpa using c6))
            (try (have c6b2 : (((rd_T25 l0 x5_1).f0) == a1_0 && (((rd_T25 l0 x5_1).f1) == a1_1 && (((rd_T25 l0 x5_1).f2) == a1_2 && (((rd_T25 l0 x5_1).f3) == a1_3 && (((rd_T25 l0 x5_1).f4) == a1_4))))) = false := by simpa using c6))
            (try (have c6b3 : ¬ (((rd_T25 l0 x5_1).f0) = a1_0 && (((rd_T25 l0 x5_1).f1) == a1_1 && (((rd_T25 l0 x5_1).f2) == a1_2 && (((rd_T25 l0 x5_1).f3) == a1_3 && (((rd_T25 l0 x5_1).f4) == a1_4))))) := by simpa using c6))
            clear c6
            have H' := Aside0.mk H
            clear H
            have p287 : 0 ≤ (x5_1 : Int) := of_decide_eq_true (by first | (with_reducible assumption) | assumption)
            have q287 : x5_1 < (l0.length : Int) := of_decide_eq_true (by first | (with_reducible assumption) | assumption)
            obtain ⟨ad287, e287, hx287_0, hx287_1, hx287_2, hx287_3, hx287_4⟩ := at_T25 HR0.out x5_1 p287 q287
            cases e287
            replace hx287_0 := (HB.out.cell (World.block_lt_of_cell? w _ hx287_0)).trans hx287_0
            replace hx287_1 := (HB.out.cell (World.block_lt_of_cell? w _ hx287_1)).trans hx287_1
            replace hx287_2 := (HB.out.cell (World.block_lt_of_cell? w _ hx287_2)).trans hx287_2
            replace hx287_3 := (HB.out.cell (World.block_lt_of_cell? w _ hx287_3)).trans hx287_3
            replace hx287_4 := (HB.out.cell (World.block_lt_of_cell? w _ hx287_4)).trans hx287_4
            replace p287 := eq_true p287
            replace q287 := eq_true q287
            have hcz8_0 : wr.cell? ⟨gb286, 0, none⟩ = some (.int .i64 a1_0) := (blk_cell BK286.out 0).trans rfl
            have hcz8_1 : wr.cell? ⟨gb286, 1, none⟩ = some (.int .i64 a1_1) := (blk_cell BK286.out 1).trans rfl
            have hcz8_2 : wr.cell? ⟨gb286, 2, none⟩ = some (.int .i64 a1_2) := (blk_cell BK286.out 2).trans rfl
            have hcz8_3 : wr.cell? ⟨gb286, 3, none⟩ = some (.int .i64 a1_3) := (blk_cell BK286.out 3).trans rfl
            have hcz8_4 : wr.cell? ⟨gb286, 4, none⟩ = some (.int .i64 a1_4) := (blk_cell BK286.out 4).trans rfl
            have hfz8_0 := blk_frozen BK286.out 0
            have hfz8_1 := blk_frozen BK286.out 1
            have hfz8_2 := blk_frozen BK286.out 2
            have hfz8_3 := blk_frozen BK286.out 3
            have hfz8_4 := blk_frozen BK286.out 4
            go_wp2
            repeat (go_quiet (fail); try go_wp2)
            go_roundg k1
            case measure => have := HK1.out; omega
            case rel => exact ⟨(wrap64 (x5_1 + 1)), (by first | rfl | (simp; done) | (simp [*]; done)), H', ⟨by have := HK1.out; omega⟩, ⟨by (with_reducible repeat (first | refine blk_drewN ?_ _ | refine blk_drew ?_ | refine blk_alloc ?_ _)); exact BK286.out⟩, ⟨by repeat (first | (with_reducible first | exact HB.out | apply below_alloc | apply pw_below_drewN | apply below_drew1 | refine below_set ?_ GE286.out) | exact HB.out)⟩⟩
        · rw [if_neg c5] at H
          exact absurd H (by simp)
      · rw [if_neg c4] at H
        have c4b0 : decide (x5_1 < (l0.length : Int)) = false := decide_eq_false c4
        clear c4
        obtain rfl := Option.some.inj H
        go_wp2
        repeat (go_quiet (fail); try go_wp2)
        go_ret
        exact ⟨by first | rfl | (simp [errW_none, errW_some] <;> rfl) | (simp [*, errW_none, errW_some] <;> rfl), by repeat (first | (with_reducible first | exact HB.out | apply below_alloc | apply pw_below_drewN | apply below_drew1 | refine below_set ?_ GE286.out) | exact HB.out)⟩

-- NOT PRINTED: function 7 (whetstonelaw18_GrammarOnce)

-- NOT PRINTED: function 8 (whetstonelaw18_GrammarNone)

-- NOT PRINTED: function 9 (whetstonelaw18_GrammarTwice)

/-! ### whetstonelaw18_GrammarSums: function 10 -/
def whetstonelaw18_GrammarSums.f (k : Nat) (l0 : List (S25)) (l1 : List (S25)) : Option (Bool) := if 0 ≤ (mn (l0.length : Int) 40) then (if (mn (l0.length : Int) 40) ≤ (l0.length : Int) then ((some (l0.take ((mn (l0.length : Int) 40) : Int).toNat : List (S25))).bind fun y291 => (if 0 ≤ (mn (l1.length : Int) 40) then (if (mn (l1.length : Int) 40) ≤ (l1.length : Int) then ((some (l1.take ((mn (l1.length : Int) 40) : Int).toNat : List (S25))).bind fun y295 => ((some (([] : List (S25)) : List (S25))).bind fun y299 => (if y299.length + y291.length < 3518437208883 then ((some (y299 ++ y291 : List (S25))).bind fun y302 => ((grammar_Nop.f).bind fun bt305 => (if y302.length < 3518437208883 then ((some (y302 ++ [(⟨bt305.1, bt305.2.1, bt305.2.2.1, bt305.2.2.2.1, bt305.2.2.2.2⟩ : S25)] : List (S25))).bind fun y310 => (if y310.length + y295.length < 3518437208883 then ((grammar_Sum.f k (y310 ++ y295)).bind fun t316 => ((grammar_Sum.f k y291).bind fun t317 => ((grammar_Sum.f k y295).bind fun t318 => (if t316 = (wrap64 (t317 + t318)) then ((grammar_Sum.f k y291).bind fun t319 => (if t319 ≥ 0 then ((whetstonelaw18_fixed.f).bind fun t320 => (some t320)) else (some false))) else (some false))))) else (none))) else (none)))) else (none)))) else (none)) else (none))) else (none)) else (none)
theorem whetstonelaw18_GrammarSums.mono : ∀ a0 a1 k, LeO (whetstonelaw18_GrammarSums.f k a0 a1) (whetstonelaw18_GrammarSums.f (k + 1) a0 a1) := by
  intro a0 a1 k
  unfold whetstonelaw18_GrammarSums.f
  repeat' first
      | (with_reducible exact grammar_Sum.mono _ _)
      | (with_reducible exact LeO.refl _)
      | (with_reducible exact LeO.none _)
      | (with_reducible refine LeO.ite ?_ ?_)
      | (with_reducible refine LeO.bind ?_ (fun _ => ?_))
      | exact grammar_Sum.mono _ _
      | exact LeO.none _
      | refine LeO.ite ?_ ?_
      | refine LeO.bind ?_ (fun _ => ?_)
set_option maxHeartbeats 8000000 in
set_option maxRecDepth 100000 in
theorem whetstonelaw18_GrammarSums.calls (k : Nat) (A0 : Option Addr) (c0 : Nat) (l0 : List (S25)) (A1 : Option Addr) (c1 : Nat) (l1 : List (S25)) (r : Bool) (w : World) (hr0 : Kd.C k25 w A0 l0.length l0) (hc0 : l0.length ≤ c0) (hr1 : Kd.C k25 w A1 l1.length l1) (hc1 : l1.length ≤ c1) (h : whetstonelaw18_GrammarSums.f k l0 l1 = some r) :
    Calls Try.prog 10 #[.slice A0 l0.length c0, .slice A1 l1.length c1] w fun e w' => e = .returned (.bool r) ∧ Below w.heap.size w w' := by
  have HR0 := Aside0.mk hr0
  have HC0 := Aside0.mk hc0
  clear hr0 hc0
  have HR1 := Aside0.mk hr1
  have HC1 := Aside0.mk hc1
  clear hr1 hc1
  have HB := Aside0.mk (Below.refl w.heap.size w)
  have H : (if 0 ≤ (mn (l0.length : Int) 40) then (if (mn (l0.length : Int) 40) ≤ (l0.length : Int) then ((some (l0.take ((mn (l0.length : Int) 40) : Int).toNat : List (S25))).bind fun y291 => (if 0 ≤ (mn (l1.length : Int) 40) then (if (mn (l1.length : Int) 40) ≤ (l1.length : Int) then ((some (l1.take ((mn (l1.length : Int) 40) : Int).toNat : List (S25))).bind fun y295 => ((some (([] : List (S25)) : List (S25))).bind fun y299 => (if y299.length + y291.length < 3518437208883 then ((some (y299 ++ y291 : List (S25))).bind fun y302 => ((grammar_Nop.f).bind fun bt305 => (if y302.length < 3518437208883 then ((some (y302 ++ [(⟨bt305.1, bt305.2.1, bt305.2.2.1, bt305.2.2.2.1, bt305.2.2.2.2⟩ : S25)] : List (S25))).bind fun y310 => (if y310.length + y295.length < 3518437208883 then ((grammar_Sum.f k (y310 ++ y295)).bind fun t316 => ((grammar_Sum.f k y291).bind fun t317 => ((grammar_Sum.f k y295).bind fun t318 => (if t316 = (wrap64 (t317 + t318)) then ((grammar_Sum.f k y291).bind fun t319 => (if t319 ≥ 0 then ((whetstonelaw18_fixed.f).bind fun t320 => (some t320)) else (some false))) else (some false))))) else (none))) else (none)))) else (none)))) else (none)) else (none))) else (none)) else (none)) = some r := h
  clear h
  obtain ⟨ji3, hji3⟩ : ∃ j_ : Int, (mn (l0.length : Int) 40) = j_ := ⟨_, rfl⟩
  replace H : (if 0 ≤ (ji3) then (if (ji3) ≤ (l0.length : Int) then ((some (l0.take ((ji3) : Int).toNat : List (S25))).bind fun y291 => (if 0 ≤ (mn (l1.length : Int) 40) then (if (mn (l1.length : Int) 40) ≤ (l1.length : Int) then ((some (l1.take ((mn (l1.length : Int) 40) : Int).toNat : List (S25))).bind fun y295 => ((some (([] : List (S25)) : List (S25))).bind fun y299 => (if y299.length + y291.length < 3518437208883 then ((some (y299 ++ y291 : List (S25))).bind fun y302 => ((grammar_Nop.f).bind fun bt305 => (if y302.length < 3518437208883 then ((some (y302 ++ [(⟨bt305.1, bt305.2.1, bt305.2.2.1, bt305.2.2.2.1, bt305.2.2.2.2⟩ : S25)] : List (S25))).bind fun y310 => (if y310.length + y295.length < 3518437208883 then ((grammar_Sum.f k (y310 ++ y295)).bind fun t316 => ((grammar_Sum.f k y291).bind fun t317 => ((grammar_Sum.f k y295).bind fun t318 => (if t316 = (wrap64 (t317 + t318)) then ((grammar_Sum.f k y291).bind fun t319 => (if t319 ≥ 0 then ((whetstonelaw18_fixed.f).bind fun t320 => (some t320)) else (some false))) else (some false))))) else (none))) else (none)))) else (none)))) else (none)) else (none))) else (none)) else (none)) = some r := by first | (rw [hji3] at H; exact H) | (simp only [hji3] at H ⊢; exact H)
  (try (have hji3h : ji3 ≤ 40 := by (rw [← hji3]; unfold mn; (repeat' split) <;> omega)))
  (try (have hji3g : ji3 ≤ 64 := by omega))
  (try (have hji3l : 0 ≤ ji3 := by (rw [← hji3]; unfold mn; (repeat' split) <;> omega)))
  (try (have hji3m : 0 ≤ ji3 := by omega))
  have hji3_ : (if 40 < (l0.length : Int) then 40 else (l0.length : Int)) = ji3 := hji3
  by_cases c4 : 0 ≤ (ji3)
  · rw [if_pos c4] at H
    have c4b0 := eq_true c4
    have c4b1 : decide (0 ≤ (ji3)) = true := decide_eq_true c4
    clear c4
    by_cases c5 : (ji3) ≤ (l0.length : Int)
    · rw [if_pos c5] at H
      have c5b0 := eq_true c5
      have c5b1 : decide ((ji3) ≤ (l0.length : Int)) = true := decide_eq_true c5
      clear c5
      obtain ⟨y291, hy291⟩ : ∃ y_ : List (S25), y_ = (l0.take ((ji3) : Int).toNat) := ⟨_, rfl⟩
      replace H : (if 0 ≤ (mn (l1.length : Int) 40) then (if (mn (l1.length : Int) 40) ≤ (l1.length : Int) then ((some (l1.take ((mn (l1.length : Int) 40) : Int).toNat : List (S25))).bind fun y295 => ((some (([] : List (S25)) : List (S25))).bind fun y299 => (if y299.length + y291.length < 3518437208883 then ((some (y299 ++ y291 : List (S25))).bind fun y302 => ((grammar_Nop.f).bind fun bt305 => (if y302.length < 3518437208883 then ((some (y302 ++ [(⟨bt305.1, bt305.2.1, bt305.2.2.1, bt305.2.2.2.1, bt305.2.2.2.2⟩ : S25)] : List (S25))).bind fun y310 => (if y310.length + y295.length < 3518437208883 then ((grammar_Sum.f k (y310 ++ y295)).bind fun t316 => ((grammar_Sum.f k y291).bind fun t317 => ((grammar_Sum.f k y295).bind fun t318 => (if t316 = (wrap64 (t317 + t318)) then ((grammar_Sum.f k y291).bind fun t319 => (if t319 ≥ 0 then ((whetstonelaw18_fixed.f).bind fun t320 => (some t320)) else (some false))) else (some false))))) else (none))) else (none)))) else (none)))) else (none)) else (none)) = some r := by first | (rw [hy291]; with_reducible exact H) | (have H2_ := (Option.bind_some _ _).symm.trans H; rw [hy291]; with_reducible exact H2_) | (have H2_ := (Option.bind_some _ _).symm.trans H; with_reducible exact H2_) | with_reducible exact H | (rw [hy291]; exact H) | exact H
      have Ny291 := Aside0.mk hy291
      clear hy291
      obtain ⟨ji6, hji6⟩ : ∃ j_ : Int, (mn (l1.length : Int) 40) = j_ := ⟨_, rfl⟩
      replace H : (if 0 ≤ (ji6) then (if (ji6) ≤ (l1.length : Int) then ((some (l1.take ((ji6) : Int).toNat : List (S25))).bind fun y295 => ((some (([] : List (S25)) : List (S25))).bind fun y299 => (if y299.length + y291.length < 3518437208883 then ((some (y299 ++ y291 : List (S25))).bind fun y302 => ((grammar_Nop.f).bind fun bt305 => (if y302.length < 3518437208883 then ((some (y302 ++ [(⟨bt305.1, bt305.2.1, bt305.2.2.1, bt305.2.2.2.1, bt305.2.2.2.2⟩ : S25)] : List (S25))).bind fun y310 => (if y310.length + y295.length < 3518437208883 then ((grammar_Sum.f k (y310 ++ y295)).bind fun t316 => ((grammar_Sum.f k y291).bind fun t317 => ((grammar_Sum.f k y295).bind fun t318 => (if t316 = (wrap64 (t317 + t318)) then ((grammar_Sum.f k y291).bind fun t319 => (if t319 ≥ 0 then ((whetstonelaw18_fixed.f).bind fun t320 => (some t320)) else (some false))) else (some false))))) else (none))) else (none)))) else (none)))) else (none)) else (none)) = some r := by first | (rw [hji6] at H; exact H) | (simp only [hji6] at H ⊢; exact H)
      (try (have hji6h : ji6 ≤ 40 := by (rw [← hji6]; unfold mn; (repeat' split) <;> omega)))
      (try (have hji6g : ji6 ≤ 64 := by omega))
      (try (have hji6l : 0 ≤ ji6 := by (rw [← hji6]; unfold mn; (repeat' split) <;> omega)))
      (try (have hji6m : 0 ≤ ji6 := by omega))
      have hji6_ : (if 40 < (l1.length : Int) then 40 else (l1.length : Int)) = ji6 := hji6
      by_cases c7 : 0 ≤ (ji6)
      · rw [if_pos c7] at H
        have c7b0 := eq_true c7
        have c7b1 : decide (0 ≤ (ji6)) = true := decide_eq_true c7
        clear c7
        by_cases c8 : (ji6) ≤ (l1.length : Int)
        · rw [if_pos c8] at H
          have c8b0 := eq_true c8
          have c8b1 : decide ((ji6) ≤ (l1.length : Int)) = true := decide_eq_true c8
          clear c8
          obtain ⟨y295, hy295⟩ : ∃ y_ : List (S25), y_ = (l1.take ((ji6) : Int).toNat) := ⟨_, rfl⟩
          replace H : ((some (([] : List (S25)) : List (S25))).bind fun y299 => (if y299.length + y291.length < 3518437208883 then ((some (y299 ++ y291 : List (S25))).bind fun y302 => ((grammar_Nop.f).bind fun bt305 => (if y302.length < 3518437208883 then ((some (y302 ++ [(⟨bt305.1, bt305.2.1, bt305.2.2.1, bt305.2.2.2.1, bt305.2.2.2.2⟩ : S25)] : List (S25))).bind fun y310 => (if y310.length + y295.length < 3518437208883 then ((grammar_Sum.f k (y310 ++ y295)).bind fun t316 => ((grammar_Sum.f k y291).bind fun t317 => ((grammar_Sum.f k y295).bind fun t318 => (if t316 = (wrap64 (t317 + t318)) then ((grammar_Sum.f k y291).bind fun t319 => (if t319 ≥ 0 then ((whetstonelaw18_fixed.f).bind fun t320 => (some t320)) else (some false))) else (some false))))) else (none))) else (none)))) else (none))) = some r := by first | (rw [hy295]; with_reducible exact H) | (have H2_ := (Option.bind_some _ _).symm.trans H; rw [hy295]; with_reducible exact H2_) | (have H2_ := (Option.bind_some _ _).symm.trans H; with_reducible exact H2_) | with_reducible exact H | (rw [hy295]; exact H) | exact H
          have Ny295 := Aside0.mk hy295
          clear hy295
          obtain ⟨y299, hy299⟩ : ∃ y_ : List (S25), y_ = (([] : List (S25))) := ⟨_, rfl⟩
          replace H : (if y299.length + y291.length < 3518437208883 then ((some (y299 ++ y291 : List (S25))).bind fun y302 => ((grammar_Nop.f).bind fun bt305 => (if y302.length < 3518437208883 then ((some (y302 ++ [(⟨bt305.1, bt305.2.1, bt305.2.2.1, bt305.2.2.2.1, bt305.2.2.2.2⟩ : S25)] : List (S25))).bind fun y310 => (if y310.length + y295.length < 3518437208883 then ((grammar_Sum.f k (y310 ++ y295)).bind fun t316 => ((grammar_Sum.f k y291).bind fun t317 => ((grammar_Sum.f k y295).bind fun t318 => (if t316 = (wrap64 (t317 + t318)) then ((grammar_Sum.f k y291).bind fun t319 => (if t319 ≥ 0 then ((whetstonelaw18_fixed.f).bind fun t320 => (some t320)) else (some false))) else (some false))))) else (none))) else (none)))) else (none)) = some r := by first | (rw [hy299]; with_reducible exact H) | (have H2_ := (Option.bind_some _ _).symm.trans H; rw [hy299]; with_reducible exact H2_) | (have H2_ := (Option.bind_some _ _).symm.trans H; with_reducible exact H2_) | with_reducible exact H | (rw [hy299]; exact H) | exact H
          have Ny299 := Aside0.mk hy299
          clear hy299
          by_cases c9 : y299.length + y291.length < 3518437208883
          · rw [if_pos c9] at H
            have LMc9 := Aside0.mk c9
            clear c9
            obtain ⟨y302, hy302⟩ : ∃ y_ : List (S25), y_ = (y299 ++ y291) := ⟨_, rfl⟩
            replace H : ((grammar_Nop.f).bind fun bt305 => (if y302.length < 3518437208883 then ((some (y302 ++ [(⟨bt305.1, bt305.2.1, bt305.2.2.1, bt305.2.2.2.1, bt305.2.2.2.2⟩ : S25)] : List (S25))).bind fun y310 => (if y310.length + y295.length < 3518437208883 then ((grammar_Sum.f k (y310 ++ y295)).bind fun t316 => ((grammar_Sum.f k y291).bind fun t317 => ((grammar_Sum.f k y295).bind fun t318 => (if t316 = (wrap64 (t317 + t318)) then ((grammar_Sum.f k y291).bind fun t319 => (if t319 ≥ 0 then ((whetstonelaw18_fixed.f).bind fun t320 => (some t320)) else (some false))) else (some false))))) else (none))) else (none))) = some r := by first | (rw [hy302]; with_reducible exact H) | (have H2_ := (Option.bind_some _ _).symm.trans H; rw [hy302]; with_reducible exact H2_) | (have H2_ := (Option.bind_some _ _).symm.trans H; with_reducible exact H2_) | with_reducible exact H | (rw [hy302]; exact H) | exact H
            have Ny302 := Aside0.mk hy302
            clear hy302
            replace H := Option.bind_eq_some_iff.mp H
            obtain ⟨⟨t305, t306, t307, t308, t309⟩, A100, H⟩ := H
            replace H : (if y302.length < 3518437208883 then ((some (y302 ++ [(⟨t305, t306, t307, t308, t309⟩ : S25)] : List (S25))).bind fun y310 => (if y310.length + y295.length < 3518437208883 then ((grammar_Sum.f k (y310 ++ y295)).bind fun t316 => ((grammar_Sum.f k y291).bind fun t317 => ((grammar_Sum.f k y295).bind fun t318 => (if t316 = (wrap64 (t317 + t318)) then ((grammar_Sum.f k y291).bind fun t319 => (if t319 ≥ 0 then ((whetstonelaw18_fixed.f).bind fun t320 => (some t320)) else (some false))) else (some false))))) else (none))) else (none)) = some r := H
            have A10 := Aside0.mk A100
            clear A100
            by_cases c11 : y302.length < 3518437208883
            · rw [if_pos c11] at H
              have LMc11 := Aside0.mk c11
              clear c11
              obtain ⟨y310, hy310⟩ : ∃ y_ : List (S25), y_ = (y302 ++ [(⟨t305, t306, t307, t308, t309⟩ : S25)]) := ⟨_, rfl⟩
              replace H : (if y310.length + y295.length < 3518437208883 then ((grammar_Sum.f k (y310 ++ y295)).bind fun t316 => ((grammar_Sum.f k y291).bind fun t317 => ((grammar_Sum.f k y295).bind fun t318 => (if t316 = (wrap64 (t317 + t318)) then ((grammar_Sum.f k y291).bind fun t319 => (if t319 ≥ 0 then ((whetstonelaw18_fixed.f).bind fun t320 => (some t320)) else (some false))) else (some false))))) else (none)) = some r := by first | (rw [hy310]; with_reducible exact H) | (have H2_ := (Option.bind_some _ _).symm.trans H; rw [hy310]; with_reducible exact H2_) | (have H2_ := (Option.bind_some _ _).symm.trans H; with_reducible exact H2_) | with_reducible exact H | (rw [hy310]; exact H) | exact H
              have Ny310 := Aside0.mk hy310
              clear hy310
              by_cases c12 : y310.length + y295.length < 3518437208883
              · rw [if_pos c12] at H
                have LMc12 := Aside0.mk c12
                clear c12
                obtain ⟨y313, hy313⟩ : ∃ y_ : List (S25), y_ = (y310 ++ y295) := ⟨_, rfl⟩
                replace H : ((grammar_Sum.f k y313).bind fun t316 => ((grammar_Sum.f k y291).bind fun t317 => ((grammar_Sum.f k y295).bind fun t318 => (if t316 = (wrap64 (t317 + t318)) then ((grammar_Sum.f k y291).bind fun t319 => (if t319 ≥ 0 then ((whetstonelaw18_fixed.f).bind fun t320 => (some t320)) else (some false))) else (some false))))) = some r := by first | (rw [hy313]; with_reducible exact H) | (have H2_ := (Option.bind_some _ _).symm.trans H; rw [hy313]; with_reducible exact H2_) | (have H2_ := (Option.bind_some _ _).symm.trans H; with_reducible exact H2_) | with_reducible exact H | (rw [hy313]; exact H) | exact H
                have Ny313 := Aside0.mk hy313
                clear hy313
                replace H := Option.bind_eq_some_iff.mp H
                obtain ⟨t316, A130, H⟩ := H
                replace H : ((grammar_Sum.f k y291).bind fun t317 => ((grammar_Sum.f k y295).bind fun t318 => (if t316 = (wrap64 (t317 + t318)) then ((grammar_Sum.f k y291).bind fun t319 => (if t319 ≥ 0 then ((whetstonelaw18_fixed.f).bind fun t320 => (some t320)) else (some false))) else (some false)))) = some r := H
                have A13 := Aside0.mk A130
                clear A130
                replace H := Option.bind_eq_some_iff.mp H
                obtain ⟨t317, A140, H⟩ := H
                replace H : ((grammar_Sum.f k y295).bind fun t318 => (if t316 = (wrap64 (t317 + t318)) then ((grammar_Sum.f k y291).bind fun t319 => (if t319 ≥ 0 then ((whetstonelaw18_fixed.f).bind fun t320 => (some t320)) else (some false))) else (some false))) = some r := H
                have A14 := Aside0.mk A140
                clear A140
                replace H := Option.bind_eq_some_iff.mp H
                obtain ⟨t318, A150, H⟩ := H
                replace H : (if t316 = (wrap64 (t317 + t318)) then ((grammar_Sum.f k y291).bind fun t319 => (if t319 ≥ 0 then ((whetstonelaw18_fixed.f).bind fun t320 => (some t320)) else (some false))) else (some false)) = some r := H
                have A15 := Aside0.mk A150
                clear A150
                by_cases c16 : t316 = (wrap64 (t317 + t318))
                · rw [if_pos c16] at H
                  have c16b0 : (t316 == (wrap64 (t317 + t318))) = true := beq_iff_eq.mpr c16
                  have c16b1 : (t316 != (wrap64 (t317 + t318))) = false := bne_eq_false_iff_eq.mpr c16
                  clear c16
                  replace H := Option.bind_eq_some_iff.mp H
                  obtain ⟨t319, A170, H⟩ := H
                  replace H : (if t319 ≥ 0 then ((whetstonelaw18_fixed.f).bind fun t320 => (some t320)) else (some false)) = some r := H
                  have A17 := Aside0.mk A170
                  clear A170
                  by_cases c18 : t319 ≥ 0
                  · rw [if_pos c18] at H
                    have c18b0 : decide (0 ≤ t319) = true := decide_eq_true c18
                    clear c18
                    replace H := Option.bind_eq_some_iff.mp H
                    obtain ⟨t320, A190, H⟩ := H
                    replace H : (some t320) = some r := H
                    have A19 := Aside0.mk A190
                    clear A190
                    obtain rfl := Option.some.inj H
                    have q20 : ((ji3) : Int) ≤ ((l0.length : Int) : Int) := of_decide_eq_true (by first | (with_reducible assumption) | assumption)
                    obtain ⟨i020, hi020, _, hsz20, _⟩ := info_parts info25
                    have hroom20 : l0.length ≤ c0 := HC0.out
                    have hC20 : Kd.C k25 _ A0 l0.length l0 := HR0.out
                    have hcut20 := cut_to (P := Try.prog) 22 25 .i64 Try.underlying22 hi020 A0 l0.length c0 (ji3) (of_decide_eq_true (by first | (with_reducible assumption) | assumption)) q20 hroom20
                    have hr20 := Kd.C_take (m := ((ji3) : Int).toNat) hC20 (by omega)
                    have hy20 : y291.length = ((ji3) : Int).toNat := (by rw [Ny291.out, List.length_take]; omega)
                    rw [← Ny291.out] at hr20
                    rw [← hy20] at hcut20
                    have HR294 := Aside0.mk hr20
                    have HC294 := Aside0.mk (show y291.length ≤ c0 from by omega)
                    clear hr20 hC20 hroom20 hi020 hsz20
                    have KY20 := Aside0.mk hy20
                    clear hy20
                    replace q20 := eq_true q20
                    have q21 : ((ji6) : Int) ≤ ((l1.length : Int) : Int) := of_decide_eq_true (by first | (with_reducible assumption) | assumption)
                    obtain ⟨i021, hi021, _, hsz21, _⟩ := info_parts info25
                    have hroom21 : l1.length ≤ c1 := HC1.out
                    have hC21 : Kd.C k25 _ A1 l1.length l1 := HR1.out
                    have hcut21 := cut_to (P := Try.prog) 22 25 .i64 Try.underlying22 hi021 A1 l1.length c1 (ji6) (of_decide_eq_true (by first | (with_reducible assumption) | assumption)) q21 hroom21
                    have hr21 := Kd.C_take (m := ((ji6) : Int).toNat) hC21 (by omega)
                    have hy21 : y295.length = ((ji6) : Int).toNat := (by rw [Ny295.out, List.length_take]; omega)
                    rw [← Ny295.out] at hr21
                    rw [← hy21] at hcut21
                    have HR298 := Aside0.mk hr21
                    have HC298 := Aside0.mk (show y295.length ≤ c1 from by omega)
                    clear hr21 hC21 hroom21 hi021 hsz21
                    have KY21 := Aside0.mk hy21
                    clear hy21
                    replace q21 := eq_true q21
                    go_enter Try.func10, Try.ntmps10
                    go_wp2_with (first | ((with_reducible refine gate_dst (N := 16) rfl ?_); refine Kd.R_lit k25 _ 25 ?hg (N := 16) ?hd (xs := ([] : List (S25))) (inner := []) (ok := fun _ => True) (okp := fun _ => True) ?hr ?hp (fun _ hk => hk) trivial (Below.refl _ _) (Nat.le_refl _) (by simp) ?_; (case hd => rfl); (case hg => rfl); (case hr => first | (go_simp; done) | (go_simp; rfl)); (case hp => exact (Reps.none _ _)); intro v300 w22 ho23 hb hg_ hnew_; clear hg_ hnew_; (first | rw [← Ny299.out] at ho23 | (simp only [Int.reduceToNat] at ho23; rw [← Ny299.out] at ho23)); have n0_ := Aside0.mk (Kd.R_lower ho23 (below_size (by repeat (first | (with_reducible first | exact HB.out | apply below_alloc | apply pw_below_drewN | apply below_drew1) | exact HB.out)))); have n1_ := Aside0.mk (below_step (by repeat (first | (with_reducible first | exact HB.out | apply below_alloc | apply pw_below_drewN | apply below_drew1) | exact HB.out)) hb); clear HB; have HO301 := n0_; have HB := n1_; clear n0_ n1_; clear hb ho23) | ((with_reducible refine gate_builtin (b := .append) (xs := #[.tmp 16, .tmp 17]) rfl ?_); at_builtin; refine Kd.R_append_rows k25 (w0 := w) w.heap.size rfl (.tmp 16) (.tmp 17) 22 25 (.agg #[(.int .i64 0), (.int .i64 0), (.int .i64 0), (.int .i64 0), (.int .i64 0)]) 40 rfl Try.underlying22 info25 rfl (by decide) (by omega) v300 y299 y291 _ _ _ (fun _ => True) (fun _ => False) rfl rfl ?aO ?aR (fun _ _ h => h) (fun _ h => h.elim) ?aF ?aB ?aS ?aL ?_; (case aR => repeat (first | exact (Kd.C_below HR294.out HB.out) | (with_reducible refine Kd.C_alloc ?_ _) | (with_reducible refine Kd.C_drewN ?_ _) | (with_reducible refine Kd.C_drew ?_))); (case aB => exact (by repeat (first | (with_reducible first | exact HB.out | apply below_alloc | apply pw_below_drewN | apply below_drew1) | exact HB.out))); (case aF => exact (fun _ _ => trivial)); (case aO => exact (by (with_reducible repeat (first | apply Kd.R_alloc | apply Kd.R_drewN | apply Kd.R_drew)); exact HO301.out)); (case aS => exact (below_size (by repeat (first | (with_reducible first | exact HB.out | apply below_alloc | apply pw_below_drewN | apply below_drew1) | exact HB.out)))); (case aL => have := LMc9.out; omega); intro v303 w24 ho hb hg hat; rw [← Ny302.out] at ho; have n0_ := Aside0.mk (hb); have n1_ := Aside0.mk (ho); clear HB; clear HO301; have HB := n0_; have HO304 := n1_; clear n0_ n1_; clear ho hb hg hat) | ((with_reducible refine gate_callee (f := 27) rfl ?_); refine goesL_ (some 20) rfl rfl Try.func27 (by kernel_rfl) rfl #[] rfl (by (try simp only [List.map_toArray, List.map_cons, List.map_nil]); first | done | rfl | (simp only [List.length_drop, List.length_take]; rfl)) ?_; (with_reducible refine (grammar_Nop.calls  t305 t306 t307 t308 t309 _ A10.out).mono ?_); rintro e w25 ⟨rfl, hb⟩; refine ⟨_, rfl, ?_⟩; have n0_ := Aside0.mk (Kd.R_below (by (with_reducible repeat (first | apply Kd.R_alloc | apply Kd.R_drewN | apply Kd.R_drew)); exact HO304.out) hb); have n1_ := Aside0.mk (below_step (by repeat (first | (with_reducible first | exact HB.out | apply below_alloc | apply pw_below_drewN | apply below_drew1) | exact HB.out)) hb); clear HO304; clear HB; have HO304 := n0_; have HB := n1_; clear n0_ n1_; (try clear hb); (try clear hb2); (try clear hk); (try clear hi)) | ((with_reducible refine gate_builtin (b := .append) (xs := #[.tmp 19, .tmp 21]) rfl ?_); at_builtin; refine Kd.R_append k25 (w0 := w) w.heap.size rfl (.tmp 19) (.tmp 21) 22 25 (.agg #[(.int .i64 0), (.int .i64 0), (.int .i64 0), (.int .i64 0), (.int .i64 0)]) 40 rfl Try.underlying22 info25 rfl (by decide) (by omega) v303 y302 (⟨t305, t306, t307, t308, t309⟩ : S25) [.int .i64 t305, .int .i64 t306, .int .i64 t307, .int .i64 t308, .int .i64 t309] (fun _ => True) (fun _ => False) rfl rfl ?aP (fun _ hk => hk.elim) ?aF ?aO ?aB ?aS ?aL ?_; (case aP => exact k25_mkM _ _ _ (⟨t305, t306, t307, t308, t309⟩ : S25)); (case aB => exact (by repeat (first | (with_reducible first | exact HB.out | apply below_alloc | apply pw_below_drewN | apply below_drew1) | exact HB.out))); (case aF => exact (fun _ _ => trivial)); (case aO => exact (by (with_reducible repeat (first | apply Kd.R_alloc | apply Kd.R_drewN | apply Kd.R_drew)); exact HO304.out)); (case aS => exact (below_size (by repeat (first | (with_reducible first | exact HB.out | apply below_alloc | apply pw_below_drewN | apply below_drew1) | exact HB.out)))); (case aL => have := LMc11.out; omega); intro v311 w26 ho hb hg hat; rw [← Ny310.out] at ho; have n0_ := Aside0.mk (hb); have n1_ := Aside0.mk (ho); clear HB; clear HO304; have HB := n0_; have HO312 := n1_; clear n0_ n1_; clear ho hb hg hat) | ((with_reducible refine gate_builtin (b := .append) (xs := #[.tmp 23, .tmp 24]) rfl ?_); at_builtin; refine Kd.R_append_rows k25 (w0 := w) w.heap.size rfl (.tmp 23) (.tmp 24) 22 25 (.agg #[(.int .i64 0), (.int .i64 0), (.int .i64 0), (.int .i64 0), (.int .i64 0)]) 40 rfl Try.underlying22 info25 rfl (by decide) (by omega) v311 y310 y295 _ _ _ (fun _ => True) (fun _ => False) rfl rfl ?aO ?aR (fun _ _ h => h) (fun _ h => h.elim) ?aF ?aB ?aS ?aL ?_; (case aR => repeat (first | exact (Kd.C_below HR298.out HB.out) | (with_reducible refine Kd.C_alloc ?_ _) | (with_reducible refine Kd.C_drewN ?_ _) | (with_reducible refine Kd.C_drew ?_))); (case aB => exact (by repeat (first | (with_reducible first | exact HB.out | apply below_alloc | apply pw_below_drewN | apply below_drew1) | exact HB.out))); (case aF => exact (fun _ _ => trivial)); (case aO => exact (by (with_reducible repeat (first | apply Kd.R_alloc | apply Kd.R_drewN | apply Kd.R_drew)); exact HO312.out)); (case aS => exact (below_size (by repeat (first | (with_reducible first | exact HB.out | apply below_alloc | apply pw_below_drewN | apply below_drew1) | exact HB.out)))); (case aL => have := LMc12.out; omega); intro v314 w27 ho hb hg hat; rw [← Ny313.out] at ho; have n0_ := Aside0.mk (hb); have n1_ := Aside0.mk (ho); clear HB; clear HO312; have HB := n0_; have HO315 := n1_; clear n0_ n1_; clear ho hb hg hat; obtain ⟨Ao28, co28, eo28⟩ := Kd.R_slice HO315.out; subst eo28) | ((with_reducible refine gate_callee (f := 14) rfl ?_); refine goesL_ (some 27) rfl rfl Try.func14 (by kernel_rfl) rfl #[.slice Ao28 y313.length co28] rfl (by (try simp only [List.map_toArray, List.map_cons, List.map_nil]); first | done | rfl | (simp only [List.length_drop, List.length_take]; rfl)) ?_; (with_reducible refine (grammar_Sum.calls k _ _ y313 t316 _ ?side1 ?side2 A13.out).mono ?_); (case side1 => repeat (first | exact (Kd.R_reads' HO315.out).2.2 | (with_reducible refine Kd.C_alloc ?_ _) | (with_reducible refine Kd.C_drewN ?_ _) | (with_reducible refine Kd.C_drew ?_))); (case side2 => exact (Kd.R_reads' HO315.out).2.1); rintro e w29 ⟨rfl, hb⟩; refine ⟨_, rfl, ?_⟩; have n0_ := Aside0.mk (Kd.R_below (by (with_reducible repeat (first | apply Kd.R_alloc | apply Kd.R_drewN | apply Kd.R_drew)); exact HO315.out) hb); have n1_ := Aside0.mk (below_step (by repeat (first | (with_reducible first | exact HB.out | apply below_alloc | apply pw_below_drewN | apply below_drew1) | exact HB.out)) hb); clear HO315; clear HB; have HO315 := n0_; have HB := n1_; clear n0_ n1_; (try clear hb); (try clear hb2); (try clear hk); (try clear hi)) | ((with_reducible refine gate_callee (f := 14) rfl ?_); refine goesL_ (some 29) rfl rfl Try.func14 (by kernel_rfl) rfl #[.slice A0 y291.length c0] rfl (by (try simp only [List.map_toArray, List.map_cons, List.map_nil]); first | done | rfl | (simp only [List.length_drop, List.length_take]; rfl)) ?_; (with_reducible refine (grammar_Sum.calls k _ _ y291 t317 _ ?side1 ?side2 A14.out).mono ?_); (case side1 => repeat (first | exact (Kd.C_below HR294.out HB.out) | (with_reducible refine Kd.C_alloc ?_ _) | (with_reducible refine Kd.C_drewN ?_ _) | (with_reducible refine Kd.C_drew ?_))); (case side2 => exact HC294.out); rintro e w30 ⟨rfl, hb⟩; refine ⟨_, rfl, ?_⟩; have n0_ := Aside0.mk (Kd.R_below (by (with_reducible repeat (first | apply Kd.R_alloc | apply Kd.R_drewN | apply Kd.R_drew)); exact HO315.out) hb); have n1_ := Aside0.mk (below_step (by repeat (first | (with_reducible first | exact HB.out | apply below_alloc | apply pw_below_drewN | apply below_drew1) | exact HB.out)) hb); clear HO315; clear HB; have HO315 := n0_; have HB := n1_; clear n0_ n1_; (try clear hb); (try clear hb2); (try clear hk); (try clear hi)) | ((with_reducible refine gate_callee (f := 14) rfl ?_); refine goesL_ (some 31) rfl rfl Try.func14 (by kernel_rfl) rfl #[.slice A1 y295.length c1] rfl (by (try simp only [List.map_toArray, List.map_cons, List.map_nil]); first | done | rfl | (simp only [List.length_drop, List.length_take]; rfl)) ?_; (with_reducible refine (grammar_Sum.calls k _ _ y295 t318 _ ?side1 ?side2 A15.out).mono ?_); (case side1 => repeat (first | exact (Kd.C_below HR298.out HB.out) | (with_reducible refine Kd.C_alloc ?_ _) | (with_reducible refine Kd.C_drewN ?_ _) | (with_reducible refine Kd.C_drew ?_))); (case side2 => exact HC298.out); rintro e w31 ⟨rfl, hb⟩; refine ⟨_, rfl, ?_⟩; have n0_ := Aside0.mk (Kd.R_below (by (with_reducible repeat (first | apply Kd.R_alloc | apply Kd.R_drewN | apply Kd.R_drew)); exact HO315.out) hb); have n1_ := Aside0.mk (below_step (by repeat (first | (with_reducible first | exact HB.out | apply below_alloc | apply pw_below_drewN | apply below_drew1) | exact HB.out)) hb); clear HO315; clear HB; have HO315 := n0_; have HB := n1_; clear n0_ n1_; (try clear hb); (try clear hb2); (try clear hk); (try clear hi)) | (go_at_call 14; (with_reducible refine (grammar_Sum.calls k _ _ y291 t319 _ ?side1 ?side2 A17.out).mono ?_); (case side1 => repeat (first | exact (Kd.C_below HR294.out HB.out) | (with_reducible refine Kd.C_alloc ?_ _) | (with_reducible refine Kd.C_drewN ?_ _) | (with_reducible refine Kd.C_drew ?_))); (case side2 => exact HC294.out); rintro e w32 ⟨rfl, hb⟩; have n0_ := Aside0.mk (Kd.R_below (by (with_reducible repeat (first | apply Kd.R_alloc | apply Kd.R_drewN | apply Kd.R_drew)); exact HO315.out) hb); have n1_ := Aside0.mk (below_step (by repeat (first | (with_reducible first | exact HB.out | apply below_alloc | apply pw_below_drewN | apply below_drew1) | exact HB.out)) hb); clear HO315; clear HB; have HO315 := n0_; have HB := n1_; clear n0_ n1_; (try clear hb); (try clear hb2); (try clear hk); (try clear hi)) | (go_at_call 13; (with_reducible refine (whetstonelaw18_fixed.calls  t320 _ A19.out).mono ?_); rintro e w33 ⟨rfl, hb⟩; have n0_ := Aside0.mk (Kd.R_below (by (with_reducible repeat (first | apply Kd.R_alloc | apply Kd.R_drewN | apply Kd.R_drew)); exact HO315.out) hb); have n1_ := Aside0.mk (below_step (by repeat (first | (with_reducible first | exact HB.out | apply below_alloc | apply pw_below_drewN | apply below_drew1) | exact HB.out)) hb); clear HO315; clear HB; have HO315 := n0_; have HB := n1_; clear n0_ n1_; (try clear hb); (try clear hb2); (try clear hk); (try clear hi)))
                    go_ret
                    exact ⟨by first | rfl | (simp [errW_none, errW_some] <;> rfl) | (simp only [← hji3, ← hji6]; first | rfl | (simp [errW_none, errW_some] <;> rfl)) | (simp [*, errW_none, errW_some] <;> rfl), by repeat (first | (with_reducible first | exact HB.out | apply below_alloc | apply pw_below_drewN | apply below_drew1) | exact HB.out)⟩
                  · rw [if_neg c18] at H
                    have c18b0 : decide (0 ≤ t319) = false := decide_eq_false c18
                    clear c18
                    obtain rfl := Option.some.inj H
                    have q34 : ((ji3) : Int) ≤ ((l0.length : Int) : Int) := of_decide_eq_true (by first | (with_reducible assumption) | assumption)
                    obtain ⟨i034, hi034, _, hsz34, _⟩ := info_parts info25
                    have hroom34 : l0.length ≤ c0 := HC0.out
                    have hC34 : Kd.C k25 _ A0 l0.length l0 := HR0.out
                    have hcut34 := cut_to (P := Try.prog) 22 25 .i64 Try.underlying22 hi034 A0 l0.length c0 (ji3) (of_decide_eq_true (by first | (with_reducible assumption) | assumption)) q34 hroom34
                    have hr34 := Kd.C_take (m := ((ji3) : Int).toNat) hC34 (by omega)
                    have hy34 : y291.length = ((ji3) : Int).toNat := (by rw [Ny291.out, List.length_take]; omega)
                    rw [← Ny291.out] at hr34
                    rw [← hy34] at hcut34
                    have HR294 := Aside0.mk hr34
                    have HC294 := Aside0.mk (show y291.length ≤ c0 from by omega)
                    clear hr34 hC34 hroom34 hi034 hsz34
                    have KY34 := Aside0.mk hy34
                    clear hy34
                    replace q34 := eq_true q34
                    have q35 : ((ji6) : Int) ≤ ((l1.length : Int) : Int) := of_decide_eq_true (by first | (with_reducible assumption) | assumption)
                    obtain ⟨i035, hi035, _, hsz35, _⟩ := info_parts info25
                    have hroom35 : l1.length ≤ c1 := HC1.out
                    have hC35 : Kd.C k25 _ A1 l1.length l1 := HR1.out
                    have hcut35 := cut_to (P := Try.prog) 22 25 .i64 Try.underlying22 hi035 A1 l1.length c1 (ji6) (of_decide_eq_true (by first | (with_reducible assumption) | assumption)) q35 hroom35
                    have hr35 := Kd.C_take (m := ((ji6) : Int).toNat) hC35 (by omega)
                    have hy35 : y295.length = ((ji6) : Int).toNat := (by rw [Ny295.out, List.length_take]; omega)
                    rw [← Ny295.out] at hr35
                    rw [← hy35] at hcut35
                    have HR298 := Aside0.mk hr35
                    have HC298 := Aside0.mk (show y295.length ≤ c1 from by omega)
                    clear hr35 hC35 hroom35 hi035 hsz35
                    have KY35 := Aside0.mk hy35
                    clear hy35
                    replace q35 := eq_true q35
                    go_enter Try.func10, Try.ntmps10
                    go_wp2_with (first | ((with_reducible refine gate_dst (N := 16) rfl ?_); refine Kd.R_lit k25 _ 25 ?hg (N := 16) ?hd (xs := ([] : List (S25))) (inner := []) (ok := fun _ => True) (okp := fun _ => True) ?hr ?hp (fun _ hk => hk) trivial (Below.refl _ _) (Nat.le_refl _) (by simp) ?_; (case hd => rfl); (case hg => rfl); (case hr => first | (go_simp; done) | (go_simp; rfl)); (case hp => exact (Reps.none _ _)); intro v300 w36 ho37 hb hg_ hnew_; clear hg_ hnew_; (first | rw [← Ny299.out] at ho37 | (simp only [Int.reduceToNat] at ho37; rw [← Ny299.out] at ho37)); have n0_ := Aside0.mk (Kd.R_lower ho37 (below_size (by repeat (first | (with_reducible first | exact HB.out | apply below_alloc | apply pw_below_drewN | apply below_drew1) | exact HB.out)))); have n1_ := Aside0.mk (below_step (by repeat (first | (with_reducible first | exact HB.out | apply below_alloc | apply pw_below_drewN | apply below_drew1) | exact HB.out)) hb); clear HB; have HO301 := n0_; have HB := n1_; clear n0_ n1_; clear hb ho37) | ((with_reducible refine gate_builtin (b := .append) (xs := #[.tmp 16, .tmp 17]) rfl ?_); at_builtin; refine Kd.R_append_rows k25 (w0 := w) w.heap.size rfl (.tmp 16) (.tmp 17) 22 25 (.agg #[(.int .i64 0), (.int .i64 0), (.int .i64 0), (.int .i64 0), (.int .i64 0)]) 40 rfl Try.underlying22 info25 rfl (by decide) (by omega) v300 y299 y291 _ _ _ (fun _ => True) (fun _ => False) rfl rfl ?aO ?aR (fun _ _ h => h) (fun _ h => h.elim) ?aF ?aB ?aS ?aL ?_; (case aR => repeat (first | exact (Kd.C_below HR294.out HB.out) | (with_reducible refine Kd.C_alloc ?_ _) | (with_reducible refine Kd.C_drewN ?_ _) | (with_reducible refine Kd.C_drew ?_))); (case aB => exact (by repeat (first | (with_reducible first | exact HB.out | apply below_alloc | apply pw_below_drewN | apply below_drew1) | exact HB.out))); (case aF => exact (fun _ _ => trivial)); (case aO => exact (by (with_reducible repeat (first | apply Kd.R_alloc | apply Kd.R_drewN | apply Kd.R_drew)); exact HO301.out)); (case aS => exact (below_size (by repeat (first | (with_reducible first | exact HB.out | apply below_alloc | apply pw_below_drewN | apply below_drew1) | exact HB.out)))); (case aL => have := LMc9.out; omega); intro v303 w38 ho hb hg hat; rw [← Ny302.out] at ho; have n0_ := Aside0.mk (hb); have n1_ := Aside0.mk (ho); clear HB; clear HO301; have HB := n0_; have HO304 := n1_; clear n0_ n1_; clear ho hb hg hat) | ((with_reducible refine gate_callee (f := 27) rfl ?_); refine goesL_ (some 20) rfl rfl Try.func27 (by kernel_rfl) rfl #[] rfl (by (try simp only [List.map_toArray, List.map_cons, List.map_nil]); first | done | rfl | (simp only [List.length_drop, List.length_take]; rfl)) ?_; (with_reducible refine (grammar_Nop.calls  t305 t306 t307 t308 t309 _ A10.out).mono ?_); rintro e w39 ⟨rfl, hb⟩; refine ⟨_, rfl, ?_⟩; have n0_ := Aside0.mk (Kd.R_below (by (with_reducible repeat (first | apply Kd.R_alloc | apply Kd.R_drewN | apply Kd.R_drew)); exact HO304.out) hb); have n1_ := Aside0.mk (below_step (by repeat (first | (with_reducible first | exact HB.out | apply below_alloc | apply pw_below_drewN | apply below_drew1) | exact HB.out)) hb); clear HO304; clear HB; have HO304 := n0_; have HB := n1_; clear n0_ n1_; (try clear hb); (try clear hb2); (try clear hk); (try clear hi)) | ((with_reducible refine gate_builtin (b := .append) (xs := #[.tmp 19, .tmp 21]) rfl ?_); at_builtin; refine Kd.R_append k25 (w0 := w) w.heap.size rfl (.tmp 19) (.tmp 21) 22 25 (.agg #[(.int .i64 0), (.int .i64 0), (.int .i64 0), (.int .i64 0), (.int .i64 0)]) 40 rfl Try.underlying22 info25 rfl (by decide) (by omega) v303 y302 (⟨t305, t306, t307, t308, t309⟩ : S25) [.int .i64 t305, .int .i64 t306, .int .i64 t307, .int .i64 t308, .int .i64 t309] (fun _ => True) (fun _ => False) rfl rfl ?aP (fun _ hk => hk.elim) ?aF ?aO ?aB ?aS ?aL ?_; (case aP => exact k25_mkM _ _ _ (⟨t305, t306, t307, t308, t309⟩ : S25)); (case aB => exact (by repeat (first | (with_reducible first | exact HB.out | apply below_alloc | apply pw_below_drewN | apply below_drew1) | exact HB.out))); (case aF => exact (fun _ _ => trivial)); (case aO => exact (by (with_reducible repeat (first | apply Kd.R_alloc | apply Kd.R_drewN | apply Kd.R_drew)); exact HO304.out)); (case aS => exact (below_size (by repeat (first | (with_reducible first | exact HB.out | apply below_alloc | apply pw_below_drewN | apply below_drew1) | exact HB.out)))); (case aL => have := LMc11.out; omega); intro v311 w40 ho hb hg hat; rw [← Ny310.out] at ho; have n0_ := Aside0.mk (hb); have n1_ := Aside0.mk (ho); clear HB; clear HO304; have HB := n0_; have HO312 := n1_; clear n0_ n1_; clear ho hb hg hat) | ((with_reducible refine gate_builtin (b := .append) (xs := #[.tmp 23, .tmp 24]) rfl ?_); at_builtin; refine Kd.R_append_rows k25 (w0 := w) w.heap.size rfl (.tmp 23) (.tmp 24) 22 25 (.agg #[(.int .i64 0), (.int .i64 0), (.int .i64 0), (.int .i64 0), (.int .i64 0)]) 40 rfl Try.underlying22 info25 rfl (by decide) (by omega) v311 y310 y295 _ _ _ (fun _ => True) (fun _ => False) rfl rfl ?aO ?aR (fun _ _ h => h) (fun _ h => h.elim) ?aF ?aB ?aS ?aL ?_; (case aR => repeat (first | exact (Kd.C_below HR298.out HB.out) | (with_reducible refine Kd.C_alloc ?_ _) | (with_reducible refine Kd.C_drewN ?_ _) | (with_reducible refine Kd.C_drew ?_))); (case aB => exact (by repeat (first | (with_reducible first | exact HB.out | apply below_alloc | apply pw_below_drewN | apply below_drew1) | exact HB.out))); (case aF => exact (fun _ _ => trivial)); (case aO => exact (by (with_reducible repeat (first | apply Kd.R_alloc | apply Kd.R_drewN | apply Kd.R_drew)); exact HO312.out)); (case aS => exact (below_size (by repeat (first | (with_reducible first | exact HB.out | apply below_alloc | apply pw_below_drewN | apply below_drew1) | exact HB.out)))); (case aL => have := LMc12.out; omega); intro v314 w41 ho hb hg hat; rw [← Ny313.out] at ho; have n0_ := Aside0.mk (hb); have n1_ := Aside0.mk (ho); clear HB; clear HO312; have HB := n0_; have HO315 := n1_; clear n0_ n1_; clear ho hb hg hat; obtain ⟨Ao42, co42, eo42⟩ := Kd.R_slice HO315.out; subst eo42) | ((with_reducible refine gate_callee (f := 14) rfl ?_); refine goesL_ (some 27) rfl rfl Try.func14 (by kernel_rfl) rfl #[.slice Ao42 y313.length co42] rfl (by (try simp only [List.map_toArray, List.map_cons, List.map_nil]); first | done | rfl | (simp only [List.length_drop, List.length_take]; rfl)) ?_; (with_reducible refine (grammar_Sum.calls k _ _ y313 t316 _ ?side1 ?side2 A13.out).mono ?_); (case side1 => repeat (first | exact (Kd.R_reads' HO315.out).2.2 | (with_reducible refine Kd.C_alloc ?_ _) | (with_reducible refine Kd.C_drewN ?_ _) | (with_reducible refine Kd.C_drew ?_))); (case side2 => exact (Kd.R_reads' HO315.out).2.1); rintro e w43 ⟨rfl, hb⟩; refine ⟨_, rfl, ?_⟩; have n0_ := Aside0.mk (Kd.R_below (by (with_reducible repeat (first | apply Kd.R_alloc | apply Kd.R_drewN | apply Kd.R_drew)); exact HO315.out) hb); have n1_ := Aside0.mk (below_step (by repeat (first | (with_reducible first | exact HB.out | apply below_alloc | apply pw_below_drewN | apply below_drew1) | exact HB.out)) hb); clear HO315; clear HB; have HO315 := n0_; have HB := n1_; clear n0_ n1_; (try clear hb); (try clear hb2); (try clear hk); (try clear hi)) | ((with_reducible refine gate_callee (f := 14) rfl ?_); refine goesL_ (some 29) rfl rfl Try.func14 (by kernel_rfl) rfl #[.slice A0 y291.length c0] rfl (by (try simp only [List.map_toArray, List.map_cons, List.map_nil]); first | done | rfl | (simp only [List.length_drop, List.length_take]; rfl)) ?_; (with_reducible refine (grammar_Sum.calls k _ _ y291 t317 _ ?side1 ?side2 A14.out).mono ?_); (case side1 => repeat (first | exact (Kd.C_below HR294.out HB.out) | (with_reducible refine Kd.C_alloc ?_ _) | (with_reducible refine Kd.C_drewN ?_ _) | (with_reducible refine Kd.C_drew ?_))); (case side2 => exact HC294.out); rintro e w44 ⟨rfl, hb⟩; refine ⟨_, rfl, ?_⟩; have n0_ := Aside0.mk (Kd.R_below (by (with_reducible repeat (first | apply Kd.R_alloc | apply Kd.R_drewN | apply Kd.R_drew)); exact HO315.out) hb); have n1_ := Aside0.mk (below_step (by repeat (first | (with_reducible first | exact HB.out | apply below_alloc | apply pw_below_drewN | apply below_drew1) | exact HB.out)) hb); clear HO315; clear HB; have HO315 := n0_; have HB := n1_; clear n0_ n1_; (try clear hb); (try clear hb2); (try clear hk); (try clear hi)) | ((with_reducible refine gate_callee (f := 14) rfl ?_); refine goesL_ (some 31) rfl rfl Try.func14 (by kernel_rfl) rfl #[.slice A1 y295.length c1] rfl (by (try simp only [List.map_toArray, List.map_cons, List.map_nil]); first | done | rfl | (simp only [List.length_drop, List.length_take]; rfl)) ?_; (with_reducible refine (grammar_Sum.calls k _ _ y295 t318 _ ?side1 ?side2 A15.out).mono ?_); (case side1 => repeat (first | exact (Kd.C_below HR298.out HB.out) | (with_reducible refine Kd.C_alloc ?_ _) | (with_reducible refine Kd.C_drewN ?_ _) | (with_reducible refine Kd.C_drew ?_))); (case side2 => exact HC298.out); rintro e w45 ⟨rfl, hb⟩; refine ⟨_, rfl, ?_⟩; have n0_ := Aside0.mk (Kd.R_below (by (with_reducible repeat (first | apply Kd.R_alloc | apply Kd.R_drewN | apply Kd.R_drew)); exact HO315.out) hb); have n1_ := Aside0.mk (below_step (by repeat (first | (with_reducible first | exact HB.out | apply below_alloc | apply pw_below_drewN | apply below_drew1) | exact HB.out)) hb); clear HO315; clear HB; have HO315 := n0_; have HB := n1_; clear n0_ n1_; (try clear hb); (try clear hb2); (try clear hk); (try clear hi)) | (go_at_call 14; (with_reducible refine (grammar_Sum.calls k _ _ y291 t319 _ ?side1 ?side2 A17.out).mono ?_); (case side1 => repeat (first | exact (Kd.C_below HR294.out HB.out) | (with_reducible refine Kd.C_alloc ?_ _) | (with_reducible refine Kd.C_drewN ?_ _) | (with_reducible refine Kd.C_drew ?_))); (case side2 => exact HC294.out); rintro e w46 ⟨rfl, hb⟩; have n0_ := Aside0.mk (Kd.R_below (by (with_reducible repeat (first | apply Kd.R_alloc | apply Kd.R_drewN | apply Kd.R_drew)); exact HO315.out) hb); have n1_ := Aside0.mk (below_step (by repeat (first | (with_reducible first | exact HB.out | apply below_alloc | apply pw_below_drewN | apply below_drew1) | exact HB.out)) hb); clear HO315; clear HB; have HO315 := n0_; have HB := n1_; clear n0_ n1_; (try clear hb); (try clear hb2); (try clear hk); (try clear hi)))
                    go_ret
                    exact ⟨by first | rfl | (simp [errW_none, errW_some] <;> rfl) | (simp only [← hji3, ← hji6]; first | rfl | (simp [errW_none, errW_some] <;> rfl)) | (simp [*, errW_none, errW_some] <;> rfl), by repeat (first | (with_reducible first | exact HB.out | apply below_alloc | apply pw_below_drewN | apply below_drew1) | exact HB.out)⟩
                · rw [if_neg c16] at H
                  have c16b0 : (t316 == (wrap64 (t317 + t318))) = false := beq_eq_false_iff_ne.mpr c16
                  have c16b1 : (t316 != (wrap64 (t317 + t318))) = true := bne_iff_ne.mpr c16
                  obtain rfl := Option.some.inj H
                  have q47 : ((ji3) : Int) ≤ ((l0.length : Int) : Int) := of_decide_eq_true (by first | (with_reducible assumption) | assumption)
                  obtain ⟨i047, hi047, _, hsz47, _⟩ := info_parts info25
                  have hroom47 : l0.length ≤ c0 := HC0.out
                  have hC47 : Kd.C k25 _ A0 l0.length l0 := HR0.out
                  have hcut47 := cut_to (P := Try.prog) 22 25 .i64 Try.underlying22 hi047 A0 l0.length c0 (ji3) (of_decide_eq_true (by first | (with_reducible assumption) | assumption)) q47 hroom47
                  have hr47 := Kd.C_take (m := ((ji3) : Int).toNat) hC47 (by omega)
                  have hy47 : y291.length = ((ji3) : Int).toNat := (by rw [Ny291.out, List.length_take]; omega)
                  rw [← Ny291.out] at hr47
                  rw [← hy47] at hcut47
                  have HR294 := Aside0.mk hr47
                  have HC294 := Aside0.mk (show y291.length ≤ c0 from by omega)
                  clear hr47 hC47 hroom47 hi047 hsz47
                  have KY47 := Aside0.mk hy47
                  clear hy47
                  replace q47 := eq_true q47
                  have q48 : ((ji6) : Int) ≤ ((l1.length : Int) : Int) := of_decide_eq_true (by first | (with_reducible assumption) | assumption)
                  obtain ⟨i048, hi048, _, hsz48, _⟩ := info_parts info25
                  have hroom48 : l1.length ≤ c1 := HC1.out
                  have hC48 : Kd.C k25 _ A1 l1.length l1 := HR1.out
                  have hcut48 := cut_to (P := Try.prog) 22 25 .i64 Try.underlying22 hi048 A1 l1.length c1 (ji6) (of_decide_eq_true (by first | (with_reducible assumption) | assumption)) q48 hroom48
                  have hr48 := Kd.C_take (m := ((ji6) : Int).toNat) hC48 (by omega)
                  have hy48 : y295.length = ((ji6) : Int).toNat := (by rw [Ny295.out, List.length_take]; omega)
                  rw [← Ny295.out] at hr48
                  rw [← hy48] at hcut48
                  have HR298 := Aside0.mk hr48
                  have HC298 := Aside0.mk (show y295.length ≤ c1 from by omega)
                  clear hr48 hC48 hroom48 hi048 hsz48
                  have KY48 := Aside0.mk hy48
                  clear hy48
                  replace q48 := eq_true q48
                  go_enter Try.func10, Try.ntmps10
                  go_wp2_with (first | ((with_reducible refine gate_dst (N := 16) rfl ?_); refine Kd.R_lit k25 _ 25 ?hg (N := 16) ?hd (xs := ([] : List (S25))) (inner := []) (ok := fun _ => True) (okp := fun _ => True) ?hr ?hp (fun _ hk => hk) trivial (Below.refl _ _) (Nat.le_refl _) (by simp) ?_; (case hd => rfl); (case hg => rfl); (case hr => first | (go_simp; done) | (go_simp; rfl)); (case hp => exact (Reps.none _ _)); intro v300 w49 ho50 hb hg_ hnew_; clear hg_ hnew_; (first | rw [← Ny299.out] at ho50 | (simp only [Int.reduceToNat] at ho50; rw [← Ny299.out] at ho50)); have n0_ := Aside0.mk (Kd.R_lower ho50 (below_size (by repeat (first | (with_reducible first | exact HB.out | apply below_alloc | apply pw_below_drewN | apply below_drew1) | exact HB.out)))); have n1_ := Aside0.mk (below_step (by repeat (first | (with_reducible first | exact HB.out | apply below_alloc | apply pw_below_drewN | apply below_drew1) | exact HB.out)) hb); clear HB; have HO301 := n0_; have HB := n1_; clear n0_ n1_; clear hb ho50) | ((with_reducible refine gate_builtin (b := .append) (xs := #[.tmp 16, .tmp 17]) rfl ?_); at_builtin; refine Kd.R_append_rows k25 (w0 := w) w.heap.size rfl (.tmp 16) (.tmp 17) 22 25 (.agg #[(.int .i64 0), (.int .i64 0), (.int .i64 0), (.int .i64 0), (.int .i64 0)]) 40 rfl Try.underlying22 info25 rfl (by decide) (by omega) v300 y299 y291 _ _ _ (fun _ => True) (fun _ => False) rfl rfl ?aO ?aR (fun _ _ h => h) (fun _ h => h.elim) ?aF ?aB ?aS ?aL ?_; (case aR => repeat (first | exact (Kd.C_below HR294.out HB.out) | (with_reducible refine Kd.C_alloc ?_ _) | (with_reducible refine Kd.C_drewN ?_ _) | (with_reducible refine Kd.C_drew ?_))); (case aB => exact (by repeat (first | (with_reducible first | exact HB.out | apply below_alloc | apply pw_below_drewN | apply below_drew1) | exact HB.out))); (case aF => exact (fun _ _ => trivial)); (case aO => exact (by (with_reducible repeat (first | apply Kd.R_alloc | apply Kd.R_drewN | apply Kd.R_drew)); exact HO301.out)); (case aS => exact (below_size (by repeat (first | (with_reducible first | exact HB.out | apply below_alloc | apply pw_below_drewN | apply below_drew1) | exact HB.out)))); (case aL => have := LMc9.out; omega); intro v303 w51 ho hb hg hat; rw [← Ny302.out] at ho; have n0_ := Aside0.mk (hb); have n1_ := Aside0.mk (ho); clear HB; clear HO301; have HB := n0_; have HO304 := n1_; clear n0_ n1_; clear ho hb hg hat) | ((with_reducible refine gate_callee (f := 27) rfl ?_); refine goesL_ (some 20) rfl rfl Try.func27 (by kernel_rfl) rfl #[] rfl (by (try simp only [List.map_toArray, List.map_cons, List.map_nil]); first | done | rfl | (simp only [List.length_drop, List.length_take]; rfl)) ?_; (with_reducible refine (grammar_Nop.calls  t305 t306 t307 t308 t309 _ A10.out).mono ?_); rintro e w52 ⟨rfl, hb⟩; refine ⟨_, rfl, ?_⟩; have n0_ := Aside0.mk (Kd.R_below (by (with_reducible repeat (first | apply Kd.R_alloc | apply Kd.R_drewN | apply Kd.R_drew)); exact HO304.out) hb); have n1_ := Aside0.mk (below_step (by repeat (first | (with_reducible first | exact HB.out | apply below_alloc | apply pw_below_drewN | apply below_drew1) | exact HB.out)) hb); clear HO304; clear HB; have HO304 := n0_; have HB := n1_; clear n0_ n1_; (try clear hb); (try clear hb2); (try clear hk); (try clear hi)) | ((with_reducible refine gate_builtin (b := .append) (xs := #[.tmp 19, .tmp 21]) rfl ?_); at_builtin; refine Kd.R_append k25 (w0 := w) w.heap.size rfl (.tmp 19) (.tmp 21) 22 25 (.agg #[(.int .i64 0), (.int .i64 0), (.int .i64 0), (.int .i64 0), (.int .i64 0)]) 40 rfl Try.underlying22 info25 rfl (by decide) (by omega) v303 y302 (⟨t305, t306, t307, t308, t309⟩ : S25) [.int .i64 t305, .int .i64 t306, .int .i64 t307, .int .i64 t308, .int .i64 t309] (fun _ => True) (fun _ => False) rfl rfl ?aP (fun _ hk => hk.elim) ?aF ?aO ?aB ?aS ?aL ?_; (case aP => exact k25_mkM _ _ _ (⟨t305, t306, t307, t308, t309⟩ : S25)); (case aB => exact (by repeat (first | (with_reducible first | exact HB.out | apply below_alloc | apply pw_below_drewN | apply below_drew1) | exact HB.out))); (case aF => exact (fun _ _ => trivial)); (case aO => exact (by (with_reducible repeat (first | apply Kd.R_alloc | apply Kd.R_drewN | apply Kd.R_drew)); exact HO304.out)); (case aS => exact (below_size (by repeat (first | (with_reducible first | exact HB.out | apply below_alloc | apply pw_below_drewN | apply below_drew1) | exact HB.out)))); (case aL => have := LMc11.out; omega); intro v311 w53 ho hb hg hat; rw [← Ny310.out] at ho; have n0_ := Aside0.mk (hb); have n1_ := Aside0.mk (ho); clear HB; clear HO304; have HB := n0_; have HO312 := n1_; clear n0_ n1_; clear ho hb hg hat) | ((with_reducible refine gate_builtin (b := .append) (xs := #[.tmp 23, .tmp 24]) rfl ?_); at_builtin; refine Kd.R_append_rows k25 (w0 := w) w.heap.size rfl (.tmp 23) (.tmp 24) 22 25 (.agg #[(.int .i64 0), (.int .i64 0), (.int .i64 0), (.int .i64 0), (.int .i64 0)]) 40 rfl Try.underlying22 info25 rfl (by decide) (by omega) v311 y310 y295 _ _ _ (fun _ => True) (fun _ => False) rfl rfl ?aO ?aR (fun _ _ h => h) (fun _ h => h.elim) ?aF ?aB ?aS ?aL ?_; (case aR => repeat (first | exact (Kd.C_below HR298.out HB.out) | (with_reducible refine Kd.C_alloc ?_ _) | (with_reducible refine Kd.C_drewN ?_ _) | (with_reducible refine Kd.C_drew ?_))); (case aB => exact (by repeat (first | (with_reducible first | exact HB.out | apply below_alloc | apply pw_below_drewN | apply below_drew1) | exact HB.out))); (case aF => exact (fun _ _ => trivial)); (case aO => exact (by (with_reducible repeat (first | apply Kd.R_alloc | apply Kd.R_drewN | apply Kd.R_drew)); exact HO312.out)); (case aS => exact (below_size (by repeat (first | (with_reducible first | exact HB.out | apply below_alloc | apply pw_below_drewN | apply below_drew1) | exact HB.out)))); (case aL => have := LMc12.out; omega); intro v314 w54 ho hb hg hat; rw [← Ny313.out] at ho; have n0_ := Aside0.mk (hb); have n1_ := Aside0.mk (ho); clear HB; clear HO312; have HB := n0_; have HO315 := n1_; clear n0_ n1_; clear ho hb hg hat; obtain ⟨Ao55, co55, eo55⟩ := Kd.R_slice HO315.out; subst eo55) | ((with_reducible refine gate_callee (f := 14) rfl ?_); refine goesL_ (some 27) rfl rfl Try.func14 (by kernel_rfl) rfl #[.slice Ao55 y313.length co55] rfl (by (try simp only [List.map_toArray, List.map_cons, List.map_nil]); first | done | rfl | (simp only [List.length_drop, List.length_take]; rfl)) ?_; (with_reducible refine (grammar_Sum.calls k _ _ y313 t316 _ ?side1 ?side2 A13.out).mono ?_); (case side1 => repeat (first | exact (Kd.R_reads' HO315.out).2.2 | (with_reducible refine Kd.C_alloc ?_ _) | (with_reducible refine Kd.C_drewN ?_ _) | (with_reducible refine Kd.C_drew ?_))); (case side2 => exact (Kd.R_reads' HO315.out).2.1); rintro e w56 ⟨rfl, hb⟩; refine ⟨_, rfl, ?_⟩; have n0_ := Aside0.mk (Kd.R_below (by (with_reducible repeat (first | apply Kd.R_alloc | apply Kd.R_drewN | apply Kd.R_drew)); exact HO315.out) hb); have n1_ := Aside0.mk (below_step (by repeat (first | (with_reducible first | exact HB.out | apply below_alloc | apply pw_below_drewN | apply below_drew1) | exact HB.out)) hb); clear HO315; clear HB; have HO315 := n0_; have HB := n1_; clear n0_ n1_; (try clear hb); (try clear hb2); (try clear hk); (try clear hi)) | ((with_reducible refine gate_callee (f := 14) rfl ?_); refine goesL_ (some 29) rfl rfl Try.func14 (by kernel_rfl) rfl #[.slice A0 y291.length c0] rfl (by (try simp only [List.map_toArray, List.map_cons, List.map_nil]); first | done | rfl | (simp only [List.length_drop, List.length_take]; rfl)) ?_; (with_reducible refine (grammar_Sum.calls k _ _ y291 t317 _ ?side1 ?side2 A14.out).mono ?_); (case side1 => repeat (first | exact (Kd.C_below HR294.out HB.out) | (with_reducible refine Kd.C_alloc ?_ _) | (with_reducible refine Kd.C_drewN ?_ _) | (with_reducible refine Kd.C_drew ?_))); (case side2 => exact HC294.out); rintro e w57 ⟨rfl, hb⟩; refine ⟨_, rfl, ?_⟩; have n0_ := Aside0.mk (Kd.R_below (by (with_reducible repeat (first | apply Kd.R_alloc | apply Kd.R_drewN | apply Kd.R_drew)); exact HO315.out) hb); have n1_ := Aside0.mk (below_step (by repeat (first | (with_reducible first | exact HB.out | apply below_alloc | apply pw_below_drewN | apply below_drew1) | exact HB.out)) hb); clear HO315; clear HB; have HO315 := n0_; have HB := n1_; clear n0_ n1_; (try clear hb); (try clear hb2); (try clear hk); (try clear hi)) | ((with_reducible refine gate_callee (f := 14) rfl ?_); refine goesL_ (some 31) rfl rfl Try.func14 (by kernel_rfl) rfl #[.slice A1 y295.length c1] rfl (by (try simp only [List.map_toArray, List.map_cons, List.map_nil]); first | done | rfl | (simp only [List.length_drop, List.length_take]; rfl)) ?_; (with_reducible refine (grammar_Sum.calls k _ _ y295 t318 _ ?side1 ?side2 A15.out).mono ?_); (case side1 => repeat (first | exact (Kd.C_below HR298.out HB.out) | (with_reducible refine Kd.C_alloc ?_ _) | (with_reducible refine Kd.C_drewN ?_ _) | (with_reducible refine Kd.C_drew ?_))); (case side2 => exact HC298.out); rintro e w58 ⟨rfl, hb⟩; refine ⟨_, rfl, ?_⟩; have n0_ := Aside0.mk (Kd.R_below (by (with_reducible repeat (first | apply Kd.R_alloc | apply Kd.R_drewN | apply Kd.R_drew)); exact HO315.out) hb); have n1_ := Aside0.mk (below_step (by repeat (first | (with_reducible first | exact HB.out | apply below_alloc | apply pw_below_drewN | apply below_drew1) | exact HB.out)) hb); clear HO315; clear HB; have HO315 := n0_; have HB := n1_; clear n0_ n1_; (try clear hb); (try clear hb2); (try clear hk); (try clear hi)))
                  go_ret
                  exact ⟨by first | rfl | (simp [errW_none, errW_some] <;> rfl) | (simp only [← hji3, ← hji6]; first | rfl | (simp [errW_none, errW_some] <;> rfl)) | (simp [*, errW_none, errW_some] <;> rfl), by repeat (first | (with_reducible first | exact HB.out | apply below_alloc | apply pw_below_drewN | apply below_drew1) | exact HB.out)⟩
              · rw [if_neg c12] at H
                exact absurd H (by simp)
            · rw [if_neg c11] at H
              exact absurd H (by simp)
          · rw [if_neg c9] at H
            exact absurd H (by simp)
        · rw [if_neg c8] at H
          exact absurd H (by simp)
      · rw [if_neg c7] at H
        exact absurd H (by simp)
    · rw [if_neg c5] at H
      exact absurd H (by simp)
  · rw [if_neg c4] at H
    exact absurd H (by simp)

end Go.Proofs.Ytcjbdfhofpfooaa.Q
