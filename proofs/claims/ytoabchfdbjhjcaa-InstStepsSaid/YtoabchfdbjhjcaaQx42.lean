-- Written by this session's own driver (wip/tools/ownprint.py) over the kit's print: walks of the translated Go, each function once.
import Derived.Test.YtoabchfdbjhjcaaQx0
import Derived.Test.YtoabchfdbjhjcaaQx29
import Derived.Test.YtoabchfdbjhjcaaQx33
import Derived.Test.YtoabchfdbjhjcaaQx36
namespace Go.Proofs.Ytoabchfdbjhjcaa.Q
open Go.RowKit Go.Proofs.YtoabchfdbjhjcaaW.PrintWords Go.Proofs.YtoabchfdbjhjcaaW.PrintLast Go.Proofs.YtoabchfdbjhjcaaW.PrintMore
attribute [local go_sem] max2_int min2_int max_two min_two max_three min_three max_four min_four   -- for this text's walks alone
attribute [local go_sem] imax_u32 imax_u8 isg_u32 isg_u8
set_option linter.unusedVariables false
set_option linter.unusedSimpArgs false

/-! ### whetstonelaw02_InstSteps: function 8 -/
mutual
def whetstonelaw02_InstSteps.j0 : Nat → Int → Int → Int → Bool → Bool → Option (Bool)
  | 0, _, _, _, _, _ => none
  | k + 1, x0, x1, x5, x7, x29 => if x29 = true then (if x7 = true then (some false) else ((whetstonelaw02_fixed.f k).bind fun t372 => (some t372))) else (if x5 = 82 then (whetstonelaw02_InstSteps.j1 k x0 x1 x7 true) else (whetstonelaw02_InstSteps.j1 k x0 x1 x7 (x5 == 69)))
def whetstonelaw02_InstSteps.j1 : Nat → Int → Int → Bool → Bool → Option (Bool)
  | 0, _, _, _, _ => none
  | k + 1, x0, x1, x7, x40 => if x40 = true then (if (x7 == (x1 == 0)) = true then ((whetstonelaw02_fixed.f k).bind fun t373 => (some t373)) else (some false)) else (if x7 = true then (if x1 ≥ (-1048576) then (if x1 < 1048576 then ((inst_Right.f k x0 0 0 0 0).bind fun t374 => (if t374 = true then ((whetstonelaw02_fixed.f k).bind fun t375 => (some t375)) else (some false))) else (some false)) else (some false)) else ((inst_Right.f k x0 0 0 0 0).bind fun t376 => (if t376 = true then ((whetstonelaw02_fixed.f k).bind fun t377 => (some t377)) else (some false))))
end
def whetstonelaw02_InstSteps.f (k : Nat) (a0 : Int) (a1 : Int) : Option (Bool) := (inst_Form.f a0).bind fun t369 => ((inst_Right.f k a0 0 0 0 a1).bind fun t371 => (if t369 = 66 then (if (Go.bits .and .i64 a1 1) = 1 then (whetstonelaw02_InstSteps.j0 k a0 a1 t369 t371 true) else (whetstonelaw02_InstSteps.j0 k a0 a1 t369 t371 (t369 == 0))) else (if t369 = 74 then (if (Go.bits .and .i64 a1 1) = 1 then (whetstonelaw02_InstSteps.j0 k a0 a1 t369 t371 true) else (whetstonelaw02_InstSteps.j0 k a0 a1 t369 t371 (t369 == 0))) else (whetstonelaw02_InstSteps.j0 k a0 a1 t369 t371 (t369 == 0)))))
theorem whetstonelaw02_InstSteps.mono_l : ∀ k, (∀ y0 y1 y2 y3 y4, LeO (whetstonelaw02_InstSteps.j0 k y0 y1 y2 y3 y4) (whetstonelaw02_InstSteps.j0 (k + 1) y0 y1 y2 y3 y4)) ∧ (∀ y0 y1 y2 y3, LeO (whetstonelaw02_InstSteps.j1 k y0 y1 y2 y3) (whetstonelaw02_InstSteps.j1 (k + 1) y0 y1 y2 y3))
  | 0 => ⟨fun _ _ _ _ _ r h => by simp [whetstonelaw02_InstSteps.j0] at h, fun _ _ _ _ r h => by simp [whetstonelaw02_InstSteps.j1] at h⟩
  | k + 1 => by
    obtain ⟨ih0, ih1⟩ := whetstonelaw02_InstSteps.mono_l k
    refine ⟨?_, ?_⟩
    · intro y0 y1 y2 y3 y4
      unfold whetstonelaw02_InstSteps.j0
      repeat' first
      | (with_reducible exact ih0 _ _ _ _ _)
      | (with_reducible exact ih1 _ _ _ _)
      | (with_reducible exact inst_Right.mono _ _ _ _ _ _)
      | (with_reducible exact whetstonelaw02_fixed.mono _)
      | (with_reducible exact LeO.refl _)
      | (with_reducible exact LeO.none _)
      | (with_reducible refine LeO.ite ?_ ?_)
      | (with_reducible refine LeO.bind ?_ (fun _ => ?_))
      | exact ih0 _ _ _ _ _
      | exact ih1 _ _ _ _
      | exact inst_Right.mono _ _ _ _ _ _
      | exact whetstonelaw02_fixed.mono _
      | exact LeO.none _
      | refine LeO.ite ?_ ?_
      | refine LeO.bind ?_ (fun _ => ?_)
    · intro y0 y1 y2 y3
      unfold whetstonelaw02_InstSteps.j1
      repeat' first
      | (with_reducible exact ih0 _ _ _ _ _)
      | (with_reducible exact ih1 _ _ _ _)
      | (with_reducible exact inst_Right.mono _ _ _ _ _ _)
      | (with_reducible exact whetstonelaw02_fixed.mono _)
      | (with_reducible exact LeO.refl _)
      | (with_reducible exact LeO.none _)
      | (with_reducible refine LeO.ite ?_ ?_)
      | (with_reducible refine LeO.bind ?_ (fun _ => ?_))
      | exact ih0 _ _ _ _ _
      | exact ih1 _ _ _ _
      | exact inst_Right.mono _ _ _ _ _ _
      | exact whetstonelaw02_fixed.mono _
      | exact LeO.none _
      | refine LeO.ite ?_ ?_
      | refine LeO.bind ?_ (fun _ => ?_)
theorem whetstonelaw02_InstSteps.mono : ∀ a0 a1 k, LeO (whetstonelaw02_InstSteps.f k a0 a1) (whetstonelaw02_InstSteps.f (k + 1) a0 a1) := by
  intro a0 a1 k
  obtain ⟨ih0, ih1⟩ := whetstonelaw02_InstSteps.mono_l k
  unfold whetstonelaw02_InstSteps.f
  repeat' first
      | (with_reducible exact ih0 _ _ _ _ _)
      | (with_reducible exact ih1 _ _ _ _)
      | (with_reducible exact inst_Right.mono _ _ _ _ _ _)
      | (with_reducible exact whetstonelaw02_fixed.mono _)
      | (with_reducible exact LeO.refl _)
      | (with_reducible exact LeO.none _)
      | (with_reducible refine LeO.ite ?_ ?_)
      | (with_reducible refine LeO.bind ?_ (fun _ => ?_))
      | exact ih0 _ _ _ _ _
      | exact ih1 _ _ _ _
      | exact inst_Right.mono _ _ _ _ _ _
      | exact whetstonelaw02_fixed.mono _
      | exact LeO.none _
      | refine LeO.ite ?_ ?_
      | refine LeO.bind ?_ (fun _ => ?_)
set_option maxHeartbeats 8000000 in
set_option maxRecDepth 100000 in
theorem whetstonelaw02_InstSteps.calls (k : Nat) (a0 : Int) (a1 : Int) (r : Bool) (w : World) (h : whetstonelaw02_InstSteps.f k a0 a1 = some r) :
    Calls Try.prog 8 #[.int .i64 a0, .int .i64 a1] w fun e w' => e = .returned (.bool r) ∧ Below w.heap.size w w' := by
  have hu24 := Try.underlying24
  have HB := Aside0.mk (Below.refl w.heap.size w)
  have H : ((inst_Form.f a0).bind fun t369 => ((inst_Right.f k a0 0 0 0 a1).bind fun t371 => (if t369 = 66 then (if (Go.bits .and .i64 a1 1) = 1 then (whetstonelaw02_InstSteps.j0 k a0 a1 t369 t371 true) else (whetstonelaw02_InstSteps.j0 k a0 a1 t369 t371 (t369 == 0))) else (if t369 = 74 then (if (Go.bits .and .i64 a1 1) = 1 then (whetstonelaw02_InstSteps.j0 k a0 a1 t369 t371 true) else (whetstonelaw02_InstSteps.j0 k a0 a1 t369 t371 (t369 == 0))) else (whetstonelaw02_InstSteps.j0 k a0 a1 t369 t371 (t369 == 0)))))) = some r := h
  clear h
  replace H := Option.bind_eq_some_iff.mp H
  obtain ⟨t369, A30, H⟩ := H
  replace H : ((inst_Right.f k a0 0 0 0 a1).bind fun t371 => (if t369 = 66 then (if (Go.bits .and .i64 a1 1) = 1 then (whetstonelaw02_InstSteps.j0 k a0 a1 t369 t371 true) else (whetstonelaw02_InstSteps.j0 k a0 a1 t369 t371 (t369 == 0))) else (if t369 = 74 then (if (Go.bits .and .i64 a1 1) = 1 then (whetstonelaw02_InstSteps.j0 k a0 a1 t369 t371 true) else (whetstonelaw02_InstSteps.j0 k a0 a1 t369 t371 (t369 == 0))) else (whetstonelaw02_InstSteps.j0 k a0 a1 t369 t371 (t369 == 0))))) = some r := H
  have A3 := Aside0.mk A30
  clear A30
  replace H := Option.bind_eq_some_iff.mp H
  obtain ⟨t371, A40, H⟩ := H
  replace H : (if t369 = 66 then (if (Go.bits .and .i64 a1 1) = 1 then (whetstonelaw02_InstSteps.j0 k a0 a1 t369 t371 true) else (whetstonelaw02_InstSteps.j0 k a0 a1 t369 t371 (t369 == 0))) else (if t369 = 74 then (if (Go.bits .and .i64 a1 1) = 1 then (whetstonelaw02_InstSteps.j0 k a0 a1 t369 t371 true) else (whetstonelaw02_InstSteps.j0 k a0 a1 t369 t371 (t369 == 0))) else (whetstonelaw02_InstSteps.j0 k a0 a1 t369 t371 (t369 == 0)))) = some r := H
  have A4 := Aside0.mk A40
  clear A40
  have HC5 := Aside0.mk H
  clear H
  go_enter Try.func8, Try.ntmps8
  go_upto_region 4 with (first | ((with_reducible refine gate_callee (f := 39) rfl ?_); refine goesL_ (some 9) rfl rfl Try.func39 (by kernel_rfl) rfl #[.int .i64 a0] rfl (by (try simp only [List.map_toArray, List.map_cons, List.map_nil]); first | done | rfl | (simp only [List.length_drop, List.length_take]; rfl)) ?_; (with_reducible refine (inst_Form.calls a0 t369 _ A3.out).mono ?_); rintro e w6 ⟨rfl, hb⟩; refine ⟨_, rfl, ?_⟩; have n0_ := Aside0.mk (below_step (by repeat (first | (with_reducible first | exact HB.out | apply below_alloc | apply pw_below_drewN | apply below_drew1) | exact HB.out)) hb); clear HB; have HB := n0_; clear n0_; (try clear hb); (try clear hb2); (try clear hk); (try clear hi)) | ((with_reducible refine gate_dst (N := 6) rfl ?_); refine box_event ?hg (N := 6) ?hd (cs := #[.int .i64 0, .int .i64 0, .int .i64 0, .int .i64 0, .int .i64 0]) (t := 24) ?hr ?_; (case hd => rfl); (case hg => rfl); (case hr => first | (go_simp; done) | (go_simp; rfl)); intro gb370 hg w7 hbox hb; have n0_ := Aside0.mk (below_step (by repeat (first | (with_reducible first | exact HB.out | apply below_alloc | apply pw_below_drewN | apply below_drew1) | exact HB.out)) hb); have n1_ := Aside0.mk (hbox); have n2_ := Aside0.mk ((by rw [hg]; exact (below_size (by repeat (first | (with_reducible first | exact HB.out | apply below_alloc | apply pw_below_drewN | apply below_drew1) | exact HB.out))) : w.heap.size ≤ gb370)); have n3_ := Aside0.mk ((by rw [hg]; exact (below_size (by repeat (first | (with_reducible first | exact HB.out | apply below_alloc | apply pw_below_drewN | apply below_drew1) | exact HB.out))) : w.heap.size ≤ gb370)); clear HB; have HB := n0_; have BK370 := n1_; have GW370 := n2_; have GE370 := n3_; clear n0_ n1_ n2_ n3_; clear hb hbox hg; have hcz8_0 : w7.cell? ⟨gb370, 0, none⟩ = some (.int .i64 0) := (blk_cell BK370.out 0).trans rfl; have hcz8_1 : w7.cell? ⟨gb370, 1, none⟩ = some (.int .i64 0) := (blk_cell BK370.out 1).trans rfl; have hcz8_2 : w7.cell? ⟨gb370, 2, none⟩ = some (.int .i64 0) := (blk_cell BK370.out 2).trans rfl; have hcz8_3 : w7.cell? ⟨gb370, 3, none⟩ = some (.int .i64 0) := (blk_cell BK370.out 3).trans rfl; have hcz8_4 : w7.cell? ⟨gb370, 4, none⟩ = some (.int .i64 0) := (blk_cell BK370.out 4).trans rfl; have hfz8_0 := blk_frozen BK370.out 0; have hfz8_1 := blk_frozen BK370.out 1; have hfz8_2 := blk_frozen BK370.out 2; have hfz8_3 := blk_frozen BK370.out 3; have hfz8_4 := blk_frozen BK370.out 4) | ((with_reducible refine gate_callee (f := 37) rfl ?_); refine goesL_ (some 14) rfl rfl Try.func37 (by kernel_rfl) rfl #[.agg #[.int .i64 a0, .int .i64 0, .int .i64 0, .int .i64 0, .int .i64 a1]] rfl (by (try simp only [List.map_toArray, List.map_cons, List.map_nil]); first | done | rfl | (simp only [List.length_drop, List.length_take]; rfl)) ?_; (with_reducible refine (inst_Right.calls k a0 0 0 0 a1 t371 _ A4.out).mono ?_); rintro e w9 ⟨rfl, hb⟩; refine ⟨_, rfl, ?_⟩; have n0_ := Aside0.mk (blk_below (g := gb370) (o := .cells #[.int .i64 a0, .int .i64 0, .int .i64 0, .int .i64 0, .int .i64 a1] 24 (0, 0)) (by (with_reducible repeat (first | refine blk_drewN ?_ _ | refine blk_drew ?_ | refine blk_alloc ?_ _)); refine blk_put (cs := #[.int .i64 a0, .int .i64 0, .int .i64 0, .int .i64 0, .int .i64 0]) ?_ 4 _ rfl; (with_reducible repeat (first | refine blk_drewN ?_ _ | refine blk_drew ?_ | refine blk_alloc ?_ _)); refine blk_put (cs := #[.int .i64 a0, .int .i64 0, .int .i64 0, .int .i64 0, .int .i64 0]) ?_ 3 _ rfl; (with_reducible repeat (first | refine blk_drewN ?_ _ | refine blk_drew ?_ | refine blk_alloc ?_ _)); refine blk_put (cs := #[.int .i64 a0, .int .i64 0, .int .i64 0, .int .i64 0, .int .i64 0]) ?_ 2 _ rfl; (with_reducible repeat (first | refine blk_drewN ?_ _ | refine blk_drew ?_ | refine blk_alloc ?_ _)); refine blk_put (cs := #[.int .i64 a0, .int .i64 0, .int .i64 0, .int .i64 0, .int .i64 0]) ?_ 1 _ rfl; (with_reducible repeat (first | refine blk_drewN ?_ _ | refine blk_drew ?_ | refine blk_alloc ?_ _)); refine blk_put (cs := #[.int .i64 0, .int .i64 0, .int .i64 0, .int .i64 0, .int .i64 0]) ?_ 0 _ rfl; (with_reducible repeat (first | refine blk_drewN ?_ _ | refine blk_drew ?_ | refine blk_alloc ?_ _)); exact BK370.out) hb); have n1_ := Aside0.mk (below_step (by repeat (first | (with_reducible first | exact HB.out | apply below_alloc | apply pw_below_drewN | apply below_drew1 | refine below_set ?_ GE370.out) | exact HB.out)) hb); clear BK370; clear HB; have BK370 := n0_; have HB := n1_; clear n0_ n1_; (try clear hb); (try clear hb2); (try clear hk); (try clear hi)))
  (try simp only [Act.put, List.setIfInBounds_toArray, List.set_cons_zero, List.set_cons_succ])
  go_cut [29] (fun v29 wc => ∃ (kq : Nat) (x29_4 : Bool), v29 = .bool x29_4 ∧ Aside0 (whetstonelaw02_InstSteps.j0 kq a0 a1 t369 t371 x29_4 = some r) ∧ Aside0 (kq ≤ k) ∧ Aside0 (wc.heap[gb370]? = some (.cells #[.int .i64 a0, .int .i64 0, .int .i64 0, .int .i64 0, .int .i64 a1] 24 (0, 0))) ∧ Aside0 (Below w.heap.size w wc))
  case first =>
    have H := HC5.out
    clear HC5
    by_cases c10 : t369 = 66
    · rw [if_pos c10] at H
      have c10b0 : (t369 == 66) = true := beq_iff_eq.mpr c10
      have c10b1 : (t369 != 66) = false := bne_eq_false_iff_eq.mpr c10
      clear c10
      (first | rw [c10b0] | (simp only [i64_w, i32_w]; rw [c10b0]) | skip)
      by_cases c11 : (Go.bits .and .i64 a1 1) = 1
      · rw [if_pos c11] at H
        have c11b0 : ((Go.bits .and .i64 a1 1) == 1) = true := beq_iff_eq.mpr c11
        have c11b1 : ((Go.bits .and .i64 a1 1) != 1) = false := bne_eq_false_iff_eq.mpr c11
        clear c11
        have H' := Aside0.mk H
        clear H
        go_wp2
        go_meet
        case rel => exact ⟨_, (true), (by first | rfl | (simp; done) | (simp [*]; done)), H', ⟨by first | omega | exact Nat.le_refl _⟩, ⟨by (with_reducible repeat (first | refine blk_drewN ?_ _ | refine blk_drew ?_ | refine blk_alloc ?_ _)); exact BK370.out⟩, ⟨by repeat (first | (with_reducible first | exact HB.out | apply below_alloc | apply pw_below_drewN | apply below_drew1 | refine below_set ?_ GE370.out) | exact HB.out)⟩⟩
      · rw [if_neg c11] at H
        have c11b0 : ((Go.bits .and .i64 a1 1) == 1) = false := beq_eq_false_iff_ne.mpr c11
        have c11b1 : ((Go.bits .and .i64 a1 1) != 1) = true := bne_iff_ne.mpr c11
        have H' := Aside0.mk H
        clear H
        go_wp2
        go_meet
        case rel => exact ⟨_, ((t369 == 0)), (by first | rfl | (simp; done) | (simp [*]; done)), H', ⟨by first | omega | exact Nat.le_refl _⟩, ⟨by (with_reducible repeat (first | refine blk_drewN ?_ _ | refine blk_drew ?_ | refine blk_alloc ?_ _)); exact BK370.out⟩, ⟨by repeat (first | (with_reducible first | exact HB.out | apply below_alloc | apply pw_below_drewN | apply below_drew1 | refine below_set ?_ GE370.out) | exact HB.out)⟩⟩
    · rw [if_neg c10] at H
      have c10b0 : (t369 == 66) = false := beq_eq_false_iff_ne.mpr c10
      have c10b1 : (t369 != 66) = true := bne_iff_ne.mpr c10
      (first | rw [c10b0] | (simp only [i64_w, i32_w]; rw [c10b0]) | skip)
      by_cases c12 : t369 = 74
      · rw [if_pos c12] at H
        have c12b0 : (t369 == 74) = true := beq_iff_eq.mpr c12
        have c12b1 : (t369 != 74) = false := bne_eq_false_iff_eq.mpr c12
        clear c12
        by_cases c13 : (Go.bits .and .i64 a1 1) = 1
        · rw [if_pos c13] at H
          have c13b0 : ((Go.bits .and .i64 a1 1) == 1) = true := beq_iff_eq.mpr c13
          have c13b1 : ((Go.bits .and .i64 a1 1) != 1) = false := bne_eq_false_iff_eq.mpr c13
          clear c13
          have H' := Aside0.mk H
          clear H
          go_wp2
          go_meet
          case rel => exact ⟨_, (true), (by first | rfl | (simp; done) | (simp [*]; done)), H', ⟨by first | omega | exact Nat.le_refl _⟩, ⟨by (with_reducible repeat (first | refine blk_drewN ?_ _ | refine blk_drew ?_ | refine blk_alloc ?_ _)); exact BK370.out⟩, ⟨by repeat (first | (with_reducible first | exact HB.out | apply below_alloc | apply pw_below_drewN | apply below_drew1 | refine below_set ?_ GE370.out) | exact HB.out)⟩⟩
        · rw [if_neg c13] at H
          have c13b0 : ((Go.bits .and .i64 a1 1) == 1) = false := beq_eq_false_iff_ne.mpr c13
          have c13b1 : ((Go.bits .and .i64 a1 1) != 1) = true := bne_iff_ne.mpr c13
          have H' := Aside0.mk H
          clear H
          go_wp2
          go_meet
          case rel => exact ⟨_, ((t369 == 0)), (by first | rfl | (simp; done) | (simp [*]; done)), H', ⟨by first | omega | exact Nat.le_refl _⟩, ⟨by (with_reducible repeat (first | refine blk_drewN ?_ _ | refine blk_drew ?_ | refine blk_alloc ?_ _)); exact BK370.out⟩, ⟨by repeat (first | (with_reducible first | exact HB.out | apply below_alloc | apply pw_below_drewN | apply below_drew1 | refine below_set ?_ GE370.out) | exact HB.out)⟩⟩
      · rw [if_neg c12] at H
        have c12b0 : (t369 == 74) = false := beq_eq_false_iff_ne.mpr c12
        have c12b1 : (t369 != 74) = true := bne_iff_ne.mpr c12
        have H' := Aside0.mk H
        clear H
        go_wp2
        go_meet
        case rel => exact ⟨_, ((t369 == 0)), (by first | rfl | (simp; done) | (simp [*]; done)), H', ⟨by first | omega | exact Nat.le_refl _⟩, ⟨by (with_reducible repeat (first | refine blk_drewN ?_ _ | refine blk_drew ?_ | refine blk_alloc ?_ _)); exact BK370.out⟩, ⟨by repeat (first | (with_reducible first | exact HB.out | apply below_alloc | apply pw_below_drewN | apply below_drew1 | refine below_set ?_ GE370.out) | exact HB.out)⟩⟩
  case rest =>
    clear HC5
    try clear c1
    try clear p2
    try clear c3
    try clear c8
    try clear c10
    try clear c10b0
    try clear c10b1
    try clear c11
    try clear c11b0
    try clear c11b1
    try clear c12
    try clear c12b0
    try clear c12b1
    try clear c13
    try clear c13b0
    try clear c13b1
    try clear hcz8_0
    try clear hcz8_1
    try clear hcz8_2
    try clear hcz8_3
    try clear hcz8_4
    try clear hfz8_0
    try clear hfz8_1
    try clear hfz8_2
    try clear hfz8_3
    try clear hfz8_4
    obtain ⟨kq, x29_4, rfl, HA, HJ4, BK370, HB⟩ := hcut
    cases kq with
    | zero => exact absurd HA.out (by simp [whetstonelaw02_InstSteps.j0])
    | succ kj4 =>
      have H := HA.out
      clear HA
      simp only [whetstonelaw02_InstSteps.j0] at H
      by_cases c14 : x29_4 = true
      · subst c14
        have H1 : (if t371 = true then (some false) else ((whetstonelaw02_fixed.f kj4).bind fun t372 => (some t372))) = some r := by rw [if_pos rfl] at H; exact H
        clear H
        have H := H1
        clear H1
        by_cases c15 : t371 = true
        · subst c15
          have H1 : (some false) = some r := by rw [if_pos rfl] at H; exact H
          clear H
          have H := H1
          clear H1
          obtain rfl := Option.some.inj H
          go_wp2
          go_ret
          exact ⟨by first | rfl | (simp [errW_none, errW_some] <;> rfl) | (simp [*, errW_none, errW_some] <;> rfl), by repeat (first | (with_reducible first | exact HB.out | apply below_alloc | apply pw_below_drewN | apply below_drew1 | refine below_set ?_ GE370.out) | exact HB.out)⟩
        · replace c15 := Bool.eq_false_iff.mpr c15
          subst c15
          have H1 : ((whetstonelaw02_fixed.f kj4).bind fun t372 => (some t372)) = some r := by rw [if_neg (show ¬ (false = true) by decide)] at H; exact H
          clear H
          have H := H1
          clear H1
          replace H := Option.bind_eq_some_iff.mp H
          obtain ⟨t372, A160, H⟩ := H
          replace H : (some t372) = some r := H
          have A16 := Aside0.mk A160
          clear A160
          obtain rfl := Option.some.inj H
          go_wp2_with (first | (go_at_call 34; (with_reducible refine (whetstonelaw02_fixed.calls kj4  t372 _ A16.out).mono ?_); rintro e w17 ⟨rfl, hb⟩; have n0_ := Aside0.mk (blk_below (g := gb370) (o := .cells #[.int .i64 a0, .int .i64 0, .int .i64 0, .int .i64 0, .int .i64 a1] 24 (0, 0)) (by (with_reducible repeat (first | refine blk_drewN ?_ _ | refine blk_drew ?_ | refine blk_alloc ?_ _)); exact BK370.out) hb); have n1_ := Aside0.mk (below_step (by repeat (first | (with_reducible first | exact HB.out | apply below_alloc | apply pw_below_drewN | apply below_drew1 | refine below_set ?_ GE370.out) | exact HB.out)) hb); clear BK370; clear HB; have BK370 := n0_; have HB := n1_; clear n0_ n1_; (try clear hb); (try clear hb2); (try clear hk); (try clear hi)))
          go_ret
          exact ⟨by first | rfl | (simp [errW_none, errW_some] <;> rfl) | (simp [*, errW_none, errW_some] <;> rfl), by repeat (first | (with_reducible first | exact HB.out | apply below_alloc | apply pw_below_drewN | apply below_drew1 | refine below_set ?_ GE370.out) | exact HB.out)⟩
      · replace c14 := Bool.eq_false_iff.mpr c14
        subst c14
        have H1 : (if t369 = 82 then (whetstonelaw02_InstSteps.j1 kj4 a0 a1 t371 true) else (whetstonelaw02_InstSteps.j1 kj4 a0 a1 t371 (t369 == 69))) = some r := by rw [if_neg (show ¬ (false = true) by decide)] at H; exact H
        clear H
        have H := H1
        clear H1
        have HC18 := Aside0.mk H
        clear H
        go_upto_region 6 with (fail)
        go_cut [40] (fun v40 wc => ∃ (kq : Nat) (x40_17 : Bool), v40 = .bool x40_17 ∧ Aside0 (whetstonelaw02_InstSteps.j1 kq a0 a1 t371 x40_17 = some r) ∧ Aside0 (kq ≤ kj4) ∧ Aside0 (wc.heap[gb370]? = some (.cells #[.int .i64 a0, .int .i64 0, .int .i64 0, .int .i64 0, .int .i64 a1] 24 (0, 0))) ∧ Aside0 (Below w.heap.size w wc))
        case first =>
          have H := HC18.out
          clear HC18
          by_cases c19 : t369 = 82
          · rw [if_pos c19] at H
            have c19b0 : (t369 == 82) = true := beq_iff_eq.mpr c19
            have c19b1 : (t369 != 82) = false := bne_eq_false_iff_eq.mpr c19
            clear c19
            (first | rw [c19b0] | (simp only [i64_w, i32_w]; rw [c19b0]) | skip)
            have H' := Aside0.mk H
            clear H
            go_wp2
            go_meet
            case rel => exact ⟨_, (true), (by first | rfl | (simp; done) | (simp [*]; done)), H', ⟨by have := HJ4.out; first | omega | exact Nat.le_refl _⟩, ⟨by (with_reducible repeat (first | refine blk_drewN ?_ _ | refine blk_drew ?_ | refine blk_alloc ?_ _)); exact BK370.out⟩, ⟨by repeat (first | (with_reducible first | exact HB.out | apply below_alloc | apply pw_below_drewN | apply below_drew1 | refine below_set ?_ GE370.out) | exact HB.out)⟩⟩
          · rw [if_neg c19] at H
            have c19b0 : (t369 == 82) = false := beq_eq_false_iff_ne.mpr c19
            have c19b1 : (t369 != 82) = true := bne_iff_ne.mpr c19
            (first | rw [c19b0] | (simp only [i64_w, i32_w]; rw [c19b0]) | skip)
            have H' := Aside0.mk H
            clear H
            go_wp2
            go_meet
            case rel => exact ⟨_, ((t369 == 69)), (by first | rfl | (simp; done) | (simp [*]; done)), H', ⟨by have := HJ4.out; first | omega | exact Nat.le_refl _⟩, ⟨by (with_reducible repeat (first | refine blk_drewN ?_ _ | refine blk_drew ?_ | refine blk_alloc ?_ _)); exact BK370.out⟩, ⟨by repeat (first | (with_reducible first | exact HB.out | apply below_alloc | apply pw_below_drewN | apply below_drew1 | refine below_set ?_ GE370.out) | exact HB.out)⟩⟩
        case rest =>
          clear HC18
          try clear c1
          try clear p2
          try clear c3
          try clear c8
          try clear c10
          try clear c10b0
          try clear c10b1
          try clear c11
          try clear c11b0
          try clear c11b1
          try clear c12
          try clear c12b0
          try clear c12b1
          try clear c13
          try clear c13b0
          try clear c13b1
          try clear c14
          try clear c15
          try clear c19
          try clear c19b0
          try clear c19b1
          try clear hcz8_0
          try clear hcz8_1
          try clear hcz8_2
          try clear hcz8_3
          try clear hcz8_4
          try clear hfz8_0
          try clear hfz8_1
          try clear hfz8_2
          try clear hfz8_3
          try clear hfz8_4
          try clear p2
          obtain ⟨kq, x40_17, rfl, HA, HJ17, BK370, HB⟩ := hcut
          cases kq with
          | zero => exact absurd HA.out (by simp [whetstonelaw02_InstSteps.j1])
          | succ kj17 =>
            have H := HA.out
            clear HA
            simp only [whetstonelaw02_InstSteps.j1] at H
            by_cases c20 : x40_17 = true
            · subst c20
              have H1 : (if (t371 == (a1 == 0)) = true then ((whetstonelaw02_fixed.f kj17).bind fun t373 => (some t373)) else (some false)) = some r := by rw [if_pos rfl] at H; exact H
              clear H
              have H := H1
              clear H1
              by_cases c21 : (t371 == (a1 == 0)) = true
              · rw [if_pos c21] at H
                have c21b0 : (t371 == (a1 == 0)) = true := c21
                (try (have c21b1 : decide (t371 = (a1 == 0)) = true := by simpa using c21))
                (try (have c21b2 : (t371 == (a1 == 0)) = true := by simpa using c21))
                clear c21
                replace H := Option.bind_eq_some_iff.mp H
                obtain ⟨t373, A220, H⟩ := H
                replace H : (some t373) = some r := H
                have A22 := Aside0.mk A220
                clear A220
                obtain rfl := Option.some.inj H
                go_wp2_with (first | (go_at_call 34; (with_reducible refine (whetstonelaw02_fixed.calls kj17  t373 _ A22.out).mono ?_); rintro e w23 ⟨rfl, hb⟩; have n0_ := Aside0.mk (blk_below (g := gb370) (o := .cells #[.int .i64 a0, .int .i64 0, .int .i64 0, .int .i64 0, .int .i64 a1] 24 (0, 0)) (by (with_reducible repeat (first | refine blk_drewN ?_ _ | refine blk_drew ?_ | refine blk_alloc ?_ _)); exact BK370.out) hb); have n1_ := Aside0.mk (below_step (by repeat (first | (with_reducible first | exact HB.out | apply below_alloc | apply pw_below_drewN | apply below_drew1 | refine below_set ?_ GE370.out) | exact HB.out)) hb); clear BK370; clear HB; have BK370 := n0_; have HB := n1_; clear n0_ n1_; (try clear hb); (try clear hb2); (try clear hk); (try clear hi)))
                go_ret
                exact ⟨by first | rfl | (simp [errW_none, errW_some] <;> rfl) | (simp [*, errW_none, errW_some] <;> rfl), by repeat (first | (with_reducible first | exact HB.out | apply below_alloc | apply pw_below_drewN | apply below_drew1 | refine below_set ?_ GE370.out) | exact HB.out)⟩
              · rw [if_neg c21] at H
                have c21b0 : (t371 == (a1 == 0)) = false := by simpa using c21
                (try (have c21b1 : decide (t371 = (a1 == 0)) = false := by simpa using c21))
                (try (have c21b2 : (t371 == (a1 == 0)) = false := by simpa using c21))
                (try (have c21b3 : ¬ (t371 = (a1 == 0)) := by simpa using c21))
                clear c21
                obtain rfl := Option.some.inj H
                go_wp2
                go_ret
                exact ⟨by first | rfl | (simp [errW_none, errW_some] <;> rfl) | (simp [*, errW_none, errW_some] <;> rfl), by repeat (first | (with_reducible first | exact HB.out | apply below_alloc | apply pw_below_drewN | apply below_drew1 | refine below_set ?_ GE370.out) | exact HB.out)⟩
            · replace c20 := Bool.eq_false_iff.mpr c20
              subst c20
              have H1 : (if t371 = true then (if a1 ≥ (-1048576) then (if a1 < 1048576 then ((inst_Right.f kj17 a0 0 0 0 0).bind fun t374 => (if t374 = true then ((whetstonelaw02_fixed.f kj17).bind fun t375 => (some t375)) else (some false))) else (some false)) else (some false)) else ((inst_Right.f kj17 a0 0 0 0 0).bind fun t376 => (if t376 = true then ((whetstonelaw02_fixed.f kj17).bind fun t377 => (some t377)) else (some false)))) = some r := by rw [if_neg (show ¬ (false = true) by decide)] at H; exact H
              clear H
              have H := H1
              clear H1
              by_cases c24 : t371 = true
              · subst c24
                have H1 : (if a1 ≥ (-1048576) then (if a1 < 1048576 then ((inst_Right.f kj17 a0 0 0 0 0).bind fun t374 => (if t374 = true then ((whetstonelaw02_fixed.f kj17).bind fun t375 => (some t375)) else (some false))) else (some false)) else (some false)) = some r := by rw [if_pos rfl] at H; exact H
                clear H
                have H := H1
                clear H1
                by_cases c25 : a1 ≥ (-1048576)
                · rw [if_pos c25] at H
                  have c25b0 : decide ((-1048576) ≤ a1) = true := decide_eq_true c25
                  clear c25
                  by_cases c26 : a1 < 1048576
                  · rw [if_pos c26] at H
                    have c26b0 : decide (a1 < 1048576) = true := decide_eq_true c26
                    clear c26
                    replace H := Option.bind_eq_some_iff.mp H
                    obtain ⟨t374, A270, H⟩ := H
                    replace H : (if t374 = true then ((whetstonelaw02_fixed.f kj17).bind fun t375 => (some t375)) else (some false)) = some r := H
                    have A27 := Aside0.mk A270
                    clear A270
                    by_cases c28 : t374 = true
                    · subst c28
                      have H1 : ((whetstonelaw02_fixed.f kj17).bind fun t375 => (some t375)) = some r := by rw [if_pos rfl] at H; exact H
                      clear H
                      have H := H1
                      clear H1
                      replace H := Option.bind_eq_some_iff.mp H
                      obtain ⟨t375, A290, H⟩ := H
                      replace H : (some t375) = some r := H
                      have A29 := Aside0.mk A290
                      clear A290
                      obtain rfl := Option.some.inj H
                      go_wp2_with (first | (go_at_call 37; (with_reducible refine (inst_Right.calls kj17 a0 0 0 0 0 true _ A27.out).mono ?_); rintro e w30 ⟨rfl, hb⟩; have n0_ := Aside0.mk (blk_below (g := gb370) (o := .cells #[.int .i64 a0, .int .i64 0, .int .i64 0, .int .i64 0, .int .i64 a1] 24 (0, 0)) (by (with_reducible repeat (first | refine blk_drewN ?_ _ | refine blk_drew ?_ | refine blk_alloc ?_ _)); exact BK370.out) hb); have n1_ := Aside0.mk (below_step (by repeat (first | (with_reducible first | exact HB.out | apply below_alloc | apply pw_below_drewN | apply below_drew1 | refine below_set ?_ GE370.out) | exact HB.out)) hb); clear BK370; clear HB; have BK370 := n0_; have HB := n1_; clear n0_ n1_; (try clear hb); (try clear hb2); (try clear hk); (try clear hi)) | (go_at_call 34; (with_reducible refine (whetstonelaw02_fixed.calls kj17  t375 _ A29.out).mono ?_); rintro e w31 ⟨rfl, hb⟩; have n0_ := Aside0.mk (blk_below (g := gb370) (o := .cells #[.int .i64 a0, .int .i64 0, .int .i64 0, .int .i64 0, .int .i64 a1] 24 (0, 0)) (by (with_reducible repeat (first | refine blk_drewN ?_ _ | refine blk_drew ?_ | refine blk_alloc ?_ _)); exact BK370.out) hb); have n1_ := Aside0.mk (below_step (by repeat (first | (with_reducible first | exact HB.out | apply below_alloc | apply pw_below_drewN | apply below_drew1 | refine below_set ?_ GE370.out) | exact HB.out)) hb); clear BK370; clear HB; have BK370 := n0_; have HB := n1_; clear n0_ n1_; (try clear hb); (try clear hb2); (try clear hk); (try clear hi)))
                      go_ret
                      exact ⟨by first | rfl | (simp [errW_none, errW_some] <;> rfl) | (simp [*, errW_none, errW_some] <;> rfl), by repeat (first | (with_reducible first | exact HB.out | apply below_alloc | apply pw_below_drewN | apply below_drew1 | refine below_set ?_ GE370.out) | exact HB.out)⟩
                    · replace c28 := Bool.eq_false_iff.mpr c28
                      subst c28
                      have H1 : (some false) = some r := by rw [if_neg (show ¬ (false = true) by decide)] at H; exact H
                      clear H
                      have H := H1
                      clear H1
                      obtain rfl := Option.some.inj H
                      go_wp2_with (first | (go_at_call 37; (with_reducible refine (inst_Right.calls kj17 a0 0 0 0 0 false _ A27.out).mono ?_); rintro e w32 ⟨rfl, hb⟩; have n0_ := Aside0.mk (blk_below (g := gb370) (o := .cells #[.int .i64 a0, .int .i64 0, .int .i64 0, .int .i64 0, .int .i64 a1] 24 (0, 0)) (by (with_reducible repeat (first | refine blk_drewN ?_ _ | refine blk_drew ?_ | refine blk_alloc ?_ _)); exact BK370.out) hb); have n1_ := Aside0.mk (below_step (by repeat (first | (with_reducible first | exact HB.out | apply below_alloc | apply pw_below_drewN | apply below_drew1 | refine below_set ?_ GE370.out) | exact HB.out)) hb); clear BK370; clear HB; have BK370 := n0_; have HB := n1_; clear n0_ n1_; (try clear hb); (try clear hb2); (try clear hk); (try clear hi)))
                      go_ret
                      exact ⟨by first | rfl | (simp [errW_none, errW_some] <;> rfl) | (simp [*, errW_none, errW_some] <;> rfl), by repeat (first | (with_reducible first | exact HB.out | apply below_alloc | apply pw_below_drewN | apply below_drew1 | refine below_set ?_ GE370.out) | exact HB.out)⟩
                  · rw [if_neg c26] at H
                    have c26b0 : decide (a1 < 1048576) = false := decide_eq_false c26
                    clear c26
                    obtain rfl := Option.some.inj H
                    go_wp2
                    go_ret
                    exact ⟨by first | rfl | (simp [errW_none, errW_some] <;> rfl) | (simp [*, errW_none, errW_some] <;> rfl), by repeat (first | (with_reducible first | exact HB.out | apply below_alloc | apply pw_below_drewN | apply below_drew1 | refine below_set ?_ GE370.out) | exact HB.out)⟩
                · rw [if_neg c25] at H
                  have c25b0 : decide ((-1048576) ≤ a1) = false := decide_eq_false c25
                  clear c25
                  obtain rfl := Option.some.inj H
                  go_wp2
                  go_ret
                  exact ⟨by first | rfl | (simp [errW_none, errW_some] <;> rfl) | (simp [*, errW_none, errW_some] <;> rfl), by repeat (first | (with_reducible first | exact HB.out | apply below_alloc | apply pw_below_drewN | apply below_drew1 | refine below_set ?_ GE370.out) | exact HB.out)⟩
              · replace c24 := Bool.eq_false_iff.mpr c24
                subst c24
                have H1 : ((inst_Right.f kj17 a0 0 0 0 0).bind fun t376 => (if t376 = true then ((whetstonelaw02_fixed.f kj17).bind fun t377 => (some t377)) else (some false))) = some r := by rw [if_neg (show ¬ (false = true) by decide)] at H; exact H
                clear H
                have H := H1
                clear H1
                replace H := Option.bind_eq_some_iff.mp H
                obtain ⟨t376, A330, H⟩ := H
                replace H : (if t376 = true then ((whetstonelaw02_fixed.f kj17).bind fun t377 => (some t377)) else (some false)) = some r := H
                have A33 := Aside0.mk A330
                clear A330
                by_cases c34 : t376 = true
                · subst c34
                  have H1 : ((whetstonelaw02_fixed.f kj17).bind fun t377 => (some t377)) = some r := by rw [if_pos rfl] at H; exact H
                  clear H
                  have H := H1
                  clear H1
                  replace H := Option.bind_eq_some_iff.mp H
                  obtain ⟨t377, A350, H⟩ := H
                  replace H : (some t377) = some r := H
                  have A35 := Aside0.mk A350
                  clear A350
                  obtain rfl := Option.some.inj H
                  go_wp2_with (first | (go_at_call 37; (with_reducible refine (inst_Right.calls kj17 a0 0 0 0 0 true _ A33.out).mono ?_); rintro e w36 ⟨rfl, hb⟩; have n0_ := Aside0.mk (blk_below (g := gb370) (o := .cells #[.int .i64 a0, .int .i64 0, .int .i64 0, .int .i64 0, .int .i64 a1] 24 (0, 0)) (by (with_reducible repeat (first | refine blk_drewN ?_ _ | refine blk_drew ?_ | refine blk_alloc ?_ _)); exact BK370.out) hb); have n1_ := Aside0.mk (below_step (by repeat (first | (with_reducible first | exact HB.out | apply below_alloc | apply pw_below_drewN | apply below_drew1 | refine below_set ?_ GE370.out) | exact HB.out)) hb); clear BK370; clear HB; have BK370 := n0_; have HB := n1_; clear n0_ n1_; (try clear hb); (try clear hb2); (try clear hk); (try clear hi)) | (go_at_call 34; (with_reducible refine (whetstonelaw02_fixed.calls kj17  t377 _ A35.out).mono ?_); rintro e w37 ⟨rfl, hb⟩; have n0_ := Aside0.mk (blk_below (g := gb370) (o := .cells #[.int .i64 a0, .int .i64 0, .int .i64 0, .int .i64 0, .int .i64 a1] 24 (0, 0)) (by (with_reducible repeat (first | refine blk_drewN ?_ _ | refine blk_drew ?_ | refine blk_alloc ?_ _)); exact BK370.out) hb); have n1_ := Aside0.mk (below_step (by repeat (first | (with_reducible first | exact HB.out | apply below_alloc | apply pw_below_drewN | apply below_drew1 | refine below_set ?_ GE370.out) | exact HB.out)) hb); clear BK370; clear HB; have BK370 := n0_; have HB := n1_; clear n0_ n1_; (try clear hb); (try clear hb2); (try clear hk); (try clear hi)))
                  go_ret
                  exact ⟨by first | rfl | (simp [errW_none, errW_some] <;> rfl) | (simp [*, errW_none, errW_some] <;> rfl), by repeat (first | (with_reducible first | exact HB.out | apply below_alloc | apply pw_below_drewN | apply below_drew1 | refine below_set ?_ GE370.out) | exact HB.out)⟩
                · replace c34 := Bool.eq_false_iff.mpr c34
                  subst c34
                  have H1 : (some false) = some r := by rw [if_neg (show ¬ (false = true) by decide)] at H; exact H
                  clear H
                  have H := H1
                  clear H1
                  obtain rfl := Option.some.inj H
                  go_wp2_with (first | (go_at_call 37; (with_reducible refine (inst_Right.calls kj17 a0 0 0 0 0 false _ A33.out).mono ?_); rintro e w38 ⟨rfl, hb⟩; have n0_ := Aside0.mk (blk_below (g := gb370) (o := .cells #[.int .i64 a0, .int .i64 0, .int .i64 0, .int .i64 0, .int .i64 a1] 24 (0, 0)) (by (with_reducible repeat (first | refine blk_drewN ?_ _ | refine blk_drew ?_ | refine blk_alloc ?_ _)); exact BK370.out) hb); have n1_ := Aside0.mk (below_step (by repeat (first | (with_reducible first | exact HB.out | apply below_alloc | apply pw_below_drewN | apply below_drew1 | refine below_set ?_ GE370.out) | exact HB.out)) hb); clear BK370; clear HB; have BK370 := n0_; have HB := n1_; clear n0_ n1_; (try clear hb); (try clear hb2); (try clear hk); (try clear hi)))
                  go_ret
                  exact ⟨by first | rfl | (simp [errW_none, errW_some] <;> rfl) | (simp [*, errW_none, errW_some] <;> rfl), by repeat (first | (with_reducible first | exact HB.out | apply below_alloc | apply pw_below_drewN | apply below_drew1 | refine below_set ?_ GE370.out) | exact HB.out)⟩

/-- THE ONE PURE STATEMENT of whetstonelaw02_InstSteps: yours. -/
def whetstonelaw02_InstSteps.Pure : Prop := ∀ (a0 : Int) (a1 : Int), (Lit.int .i64 a0).wf = true → (Lit.int .i64 a1).wf = true → ∃ k, whetstonelaw02_InstSteps.f k a0 a1 = some true
theorem whetstonelaw02_InstSteps.walk (P : whetstonelaw02_InstSteps.Pure) (a0 : Int) (a1 : Int) (w : World) (w0 : (Lit.int .i64 a0).wf = true) (w1 : (Lit.int .i64 a1).wf = true) :
    Calls Try.prog 8 #[.int .i64 a0, .int .i64 a1] w fun e w' => e = .returned (.bool true) ∧ Below w.heap.size w w' := by
  obtain ⟨k, h⟩ := P a0 a1 w0 w1
  refine (whetstonelaw02_InstSteps.calls k a0 a1 true w h).mono ?_
  rintro e w' ⟨rfl, hd⟩
  exact ⟨rfl, hd⟩

end Go.Proofs.Ytoabchfdbjhjcaa.Q
