import Derived.Test.YtononmcodecmaaaJQx0
import Derived.Test.YtononmcodecmaaaJQx18
import Derived.Test.YtononmcodecmaaaJQx20
import Derived.Test.YtononmcodecmaaaJQx21
import Derived.Test.YtononmcodecmaaaJQx22
import Derived.Test.YtononmcodecmaaaJQx23
namespace Go.Proofs.Ytononmcodecmaaa.Q
open Go.RowKit Go.Proofs.YtononmcodecmaaaW.PrintWords Go.Proofs.YtononmcodecmaaaW.PrintLast Go.Proofs.YtononmcodecmaaaW.PrintMore
attribute [local go_sem] max2_int min2_int max_two min_two max_three min_three max_four min_four   -- for this text's walks alone
attribute [local go_sem] imax_u32 imax_u8 isg_u32 isg_u8
set_option linter.unusedVariables false
set_option linter.unusedSimpArgs false
mutual
def whetstoneref01_Do.j0 : Nat → Int → Int → Int → Int → Int → Bool → Option (Int × Int)
 | 0, _, _, _, _, _, _ => none
 | k + 1, x0, x1, x2, x8, x12, x23 => if x23 = true then ((whetstoneref01_bits.f k x0 x1 x2).bind fun t216 => (some (t216, 0))) else (if x12 = 29 then ((whetstoneref01_shift.f k x1 x8 0).bind fun t217 => (some (t217, 0))) else (if x12 = 33 then ((whetstoneref01_shift.f k x1 (wrap64 (-x8)) 0).bind fun t218 => (some (t218, 0))) else (if x12 = 34 then ((whetstoneref01_Bit.f x1 31).bind fun t219 => ((whetstoneref01_shift.f k x1 (wrap64 (-x8)) t219).bind fun t220 => (some (t220, 0)))) else (if x12 = 30 then ((whetstoneref01_Num.f x1).bind fun t221 => ((whetstoneref01_Num.f x2).bind fun t222 => ((whetstoneref01_one.f (decide (t221 < t222))).bind fun t223 => (some (t223, 0))))) else (if x12 = 31 then ((whetstoneref01_one.f (decide (x1 < x2))).bind fun t224 => (some (t224, 0))) else (if x12 = 37 then (some ((x1 * x2) % 4294967296, 0)) else (if x12 = 38 then (whetstoneref01_Do.j1 k x0 x1 x2 x12 (x12 == 38)) else (if x12 = 39 then (whetstoneref01_Do.j1 k x0 x1 x2 x12 (x12 == 39)) else (whetstoneref01_Do.j1 k x0 x1 x2 x12 (x12 == 40))))))))))
def whetstoneref01_Do.j1 : Nat → Int → Int → Int → Int → Bool → Option (Int × Int)
 | 0, _, _, _, _, _ => none
 | k + 1, x0, x1, x2, x12, x69 => if x69 = true then ((whetstoneref01_high.f k x0 x1 x2).bind fun t225 => (some (t225, 0))) else (if x12 = 41 then ((whetstoneref01_div.f k x0 x1 x2).bind fun t226 => (some (t226, 0))) else (if x12 = 42 then ((whetstoneref01_div.f k x0 x1 x2).bind fun t227 => (some (t227, 0))) else (if x12 = 43 then ((whetstoneref01_div.f k x0 x1 x2).bind fun t228 => (some (t228, 0))) else (if x12 = 44 then ((whetstoneref01_div.f k x0 x1 x2).bind fun t229 => (some (t229, 0))) else (some (0, 1))))))
end
def whetstoneref01_Do.f (k : Nat) (a0 : Int) (a1 : Int) (a2 : Int) : Option (Int × Int) := if a0 = 27 then (some ((a1 + a2) % 4294967296, 0)) else (if a0 = 28 then (some ((a1 - a2) % 4294967296, 0)) else (if a0 = 36 then (whetstoneref01_Do.j0 k a0 a1 a2 (wrap64 (Int.tmod a2 32)) a0 (a0 == 36)) else (if a0 = 35 then (whetstoneref01_Do.j0 k a0 a1 a2 (wrap64 (Int.tmod a2 32)) a0 (a0 == 35)) else (whetstoneref01_Do.j0 k a0 a1 a2 (wrap64 (Int.tmod a2 32)) a0 (a0 == 32)))))
theorem whetstoneref01_Do.mono_l : ∀ k, (∀ y0 y1 y2 y3 y4 y5, LeO (whetstoneref01_Do.j0 k y0 y1 y2 y3 y4 y5) (whetstoneref01_Do.j0 (k + 1) y0 y1 y2 y3 y4 y5)) ∧ (∀ y0 y1 y2 y3 y4, LeO (whetstoneref01_Do.j1 k y0 y1 y2 y3 y4) (whetstoneref01_Do.j1 (k + 1) y0 y1 y2 y3 y4))
 | 0 => ⟨fun _ _ _ _ _ _ r h => by simp [whetstoneref01_Do.j0] at h, fun _ _ _ _ _ r h => by simp [whetstoneref01_Do.j1] at h⟩
 | k + 1 => by
  obtain ⟨ih0, ih1⟩ := whetstoneref01_Do.mono_l k
  refine ⟨?_, ?_⟩
  ·intro y0 y1 y2 y3 y4 y5
   unfold whetstoneref01_Do.j0
   repeat' first
   | (with_reducible exact ih0 _ _ _ _ _ _)
   | (with_reducible exact ih1 _ _ _ _ _)
   | (with_reducible exact whetstoneref01_bits.mono _ _ _ _)
   | (with_reducible exact whetstoneref01_div.mono _ _ _ _)
   | (with_reducible exact whetstoneref01_high.mono _ _ _ _)
   | (with_reducible exact whetstoneref01_shift.mono _ _ _ _)
   | (with_reducible exact LeO.refl _)
   | (with_reducible exact LeO.none _)
   | (with_reducible refine LeO.ite ?_ ?_)
   | (with_reducible refine LeO.bind ?_ (fun _ => ?_))
   | exact ih0 _ _ _ _ _ _
   | exact ih1 _ _ _ _ _
   | exact whetstoneref01_bits.mono _ _ _ _
   | exact whetstoneref01_div.mono _ _ _ _
   | exact whetstoneref01_high.mono _ _ _ _
   | exact whetstoneref01_shift.mono _ _ _ _
   | exact LeO.none _
   | refine LeO.ite ?_ ?_
   | refine LeO.bind ?_ (fun _ => ?_)
  ·intro y0 y1 y2 y3 y4
   unfold whetstoneref01_Do.j1
   repeat' first
   | (with_reducible exact ih0 _ _ _ _ _ _)
   | (with_reducible exact ih1 _ _ _ _ _)
   | (with_reducible exact whetstoneref01_bits.mono _ _ _ _)
   | (with_reducible exact whetstoneref01_div.mono _ _ _ _)
   | (with_reducible exact whetstoneref01_high.mono _ _ _ _)
   | (with_reducible exact whetstoneref01_shift.mono _ _ _ _)
   | (with_reducible exact LeO.refl _)
   | (with_reducible exact LeO.none _)
   | (with_reducible refine LeO.ite ?_ ?_)
   | (with_reducible refine LeO.bind ?_ (fun _ => ?_))
   | exact ih0 _ _ _ _ _ _
   | exact ih1 _ _ _ _ _
   | exact whetstoneref01_bits.mono _ _ _ _
   | exact whetstoneref01_div.mono _ _ _ _
   | exact whetstoneref01_high.mono _ _ _ _
   | exact whetstoneref01_shift.mono _ _ _ _
   | exact LeO.none _
   | refine LeO.ite ?_ ?_
   | refine LeO.bind ?_ (fun _ => ?_)
theorem whetstoneref01_Do.mono : ∀ a0 a1 a2 k, LeO (whetstoneref01_Do.f k a0 a1 a2) (whetstoneref01_Do.f (k + 1) a0 a1 a2) := by
 intro a0 a1 a2 k
 obtain ⟨ih0, ih1⟩ := whetstoneref01_Do.mono_l k
 unfold whetstoneref01_Do.f
 repeat' first
   | (with_reducible exact ih0 _ _ _ _ _ _)
   | (with_reducible exact ih1 _ _ _ _ _)
   | (with_reducible exact whetstoneref01_bits.mono _ _ _ _)
   | (with_reducible exact whetstoneref01_div.mono _ _ _ _)
   | (with_reducible exact whetstoneref01_high.mono _ _ _ _)
   | (with_reducible exact whetstoneref01_shift.mono _ _ _ _)
   | (with_reducible exact LeO.refl _)
   | (with_reducible exact LeO.none _)
   | (with_reducible refine LeO.ite ?_ ?_)
   | (with_reducible refine LeO.bind ?_ (fun _ => ?_))
   | exact ih0 _ _ _ _ _ _
   | exact ih1 _ _ _ _ _
   | exact whetstoneref01_bits.mono _ _ _ _
   | exact whetstoneref01_div.mono _ _ _ _
   | exact whetstoneref01_high.mono _ _ _ _
   | exact whetstoneref01_shift.mono _ _ _ _
   | exact LeO.none _
   | refine LeO.ite ?_ ?_
   | refine LeO.bind ?_ (fun _ => ?_)
set_option maxHeartbeats 8000000 in
set_option maxRecDepth 100000 in
theorem whetstoneref01_Do.calls (k : Nat) (a0 : Int) (a1 : Int) (a2 : Int) (r1 : Int) (r2 : Int) (w : World) (h : whetstoneref01_Do.f k a0 a1 a2 = some (r1, r2)) :
  Calls Try.prog 27 #[.int .i64 a0, .int .u32 a1, .int .u32 a2] w fun e w' => e = .returned (.tuple #[.int .u32 r1, .int .i64 r2]) ∧ Below w.heap.size w w' := by
 have HB := Aside0.mk (Below.refl w.heap.size w)
 have H : (if a0 = 27 then (some ((a1 + a2) % 4294967296, 0)) else (if a0 = 28 then (some ((a1 - a2) % 4294967296, 0)) else (if a0 = 36 then (whetstoneref01_Do.j0 k a0 a1 a2 (wrap64 (Int.tmod a2 32)) a0 (a0 == 36)) else (if a0 = 35 then (whetstoneref01_Do.j0 k a0 a1 a2 (wrap64 (Int.tmod a2 32)) a0 (a0 == 35)) else (whetstoneref01_Do.j0 k a0 a1 a2 (wrap64 (Int.tmod a2 32)) a0 (a0 == 32)))))) = some (r1, r2) := h
 clear h
 by_cases c4 : a0 = 27
 ·rw [if_pos c4] at H
  have c4b0 : (a0 == 27) = true := beq_iff_eq.mpr c4
  have c4b1 : (a0 != 27) = false := bne_eq_false_iff_eq.mpr c4
  clear c4
  simp only [Option.some.injEq, Prod.mk.injEq] at H
  obtain ⟨rfl, rfl⟩ := H
  go_enter Try.func27, Try.ntmps27
  go_wp2
  go_ret2
  exact ⟨by first | rfl | (simp [errW_none, errW_some] <;> rfl) | (simp [*, errW_none, errW_some] <;> rfl), by repeat (first | (with_reducible first | exact HB.out | apply below_alloc | apply pw_below_drewN | apply below_drew1) | exact HB.out)⟩
 ·rw [if_neg c4] at H
  have c4b0 : (a0 == 27) = false := beq_eq_false_iff_ne.mpr c4
  have c4b1 : (a0 != 27) = true := bne_iff_ne.mpr c4
  by_cases c5 : a0 = 28
  ·rw [if_pos c5] at H
   have c5b0 : (a0 == 28) = true := beq_iff_eq.mpr c5
   have c5b1 : (a0 != 28) = false := bne_eq_false_iff_eq.mpr c5
   clear c5
   simp only [Option.some.injEq, Prod.mk.injEq] at H
   obtain ⟨rfl, rfl⟩ := H
   go_enter Try.func27, Try.ntmps27
   go_wp2
   go_ret2
   exact ⟨by first | rfl | (simp [errW_none, errW_some] <;> rfl) | (simp [*, errW_none, errW_some] <;> rfl), by repeat (first | (with_reducible first | exact HB.out | apply below_alloc | apply pw_below_drewN | apply below_drew1) | exact HB.out)⟩
  ·rw [if_neg c5] at H
   have c5b0 : (a0 == 28) = false := beq_eq_false_iff_ne.mpr c5
   have c5b1 : (a0 != 28) = true := bne_iff_ne.mpr c5
   have HC6 := Aside0.mk H
   clear H
   go_enter Try.func27, Try.ntmps27
   go_upto_if 23 with (fail)
   go_cut [23] (fun v23 wc => ∃ (kq : Nat) (x23_5 : Bool), v23 = .bool x23_5 ∧ Aside0 (whetstoneref01_Do.j0 kq a0 a1 a2 (wrap64 (Int.tmod a2 32)) a0 x23_5 = some (r1, r2)) ∧ Aside0 (kq ≤ k) ∧ Aside0 (Below w.heap.size w wc))
   case first =>
    have H := HC6.out
    clear HC6
    by_cases c7 : a0 = 36
    ·rw [if_pos c7] at H
     have c7b0 : (a0 == 36) = true := beq_iff_eq.mpr c7
     have c7b1 : (a0 != 36) = false := bne_eq_false_iff_eq.mpr c7
     clear c7
     (first | rw [c7b0] | (simp only [i64_w, i32_w]; rw [c7b0]) | skip)
     have H' := Aside0.mk H
     clear H
     go_wp2
     go_meet
     case rel => exact ⟨_, ((a0 == 36)), (by first | rfl | (simp; done) | (simp [*]; done)), H', ⟨by first | omega | exact Nat.le_refl _⟩, ⟨by repeat (first | (with_reducible first | exact HB.out | apply below_alloc | apply pw_below_drewN | apply below_drew1) | exact HB.out)⟩⟩
    ·rw [if_neg c7] at H
     have c7b0 : (a0 == 36) = false := beq_eq_false_iff_ne.mpr c7
     have c7b1 : (a0 != 36) = true := bne_iff_ne.mpr c7
     (first | rw [c7b0] | (simp only [i64_w, i32_w]; rw [c7b0]) | skip)
     by_cases c8 : a0 = 35
     ·rw [if_pos c8] at H
      have c8b0 : (a0 == 35) = true := beq_iff_eq.mpr c8
      have c8b1 : (a0 != 35) = false := bne_eq_false_iff_eq.mpr c8
      clear c8
      have H' := Aside0.mk H
      clear H
      go_wp2
      go_meet
      case rel => exact ⟨_, ((a0 == 35)), (by first | rfl | (simp; done) | (simp [*]; done)), H', ⟨by first | omega | exact Nat.le_refl _⟩, ⟨by repeat (first | (with_reducible first | exact HB.out | apply below_alloc | apply pw_below_drewN | apply below_drew1) | exact HB.out)⟩⟩
     ·rw [if_neg c8] at H
      have c8b0 : (a0 == 35) = false := beq_eq_false_iff_ne.mpr c8
      have c8b1 : (a0 != 35) = true := bne_iff_ne.mpr c8
      have H' := Aside0.mk H
      clear H
      go_wp2
      go_meet
      case rel => exact ⟨_, ((a0 == 32)), (by first | rfl | (simp; done) | (simp [*]; done)), H', ⟨by first | omega | exact Nat.le_refl _⟩, ⟨by repeat (first | (with_reducible first | exact HB.out | apply below_alloc | apply pw_below_drewN | apply below_drew1) | exact HB.out)⟩⟩
   case rest =>
    clear HC6
    try clear c2
    try clear p2
    try clear c4
    try clear c4b0
    try clear c4b1
    try clear c5
    try clear c5b0
    try clear c5b1
    try clear p6
    try clear c7
    try clear c7b0
    try clear c7b1
    try clear c8
    try clear c8b0
    try clear c8b1
    obtain ⟨kq, x23_5, rfl, HA, HJ5, HB⟩ := hcut
    cases kq with
    | zero => exact absurd HA.out (by simp [whetstoneref01_Do.j0])
    | succ kj5 =>
     have H := HA.out
     clear HA
     simp only [whetstoneref01_Do.j0] at H
     by_cases c9 : x23_5 = true
     ·subst c9
      have H1 : ((whetstoneref01_bits.f kj5 a0 a1 a2).bind fun t216 => (some (t216, 0))) = some (r1, r2) := by rw [if_pos rfl] at H; exact H
      clear H
      have H := H1
      clear H1
      replace H := Option.bind_eq_some_iff.mp H
      obtain ⟨t216, A100, H⟩ := H
      replace H : (some (t216, 0)) = some (r1, r2) := H
      have A10 := Aside0.mk A100
      clear A100
      simp only [Option.some.injEq, Prod.mk.injEq] at H
      obtain ⟨rfl, rfl⟩ := H
      go_wp2_with (first | ((with_reducible refine gate_callee (f := 57) rfl ?_); refine goesL_ (some 30) rfl rfl Try.func57 (by kernel_rfl) rfl #[.int .i64 a0, .int .u32 a1, .int .u32 a2] rfl (by (try simp only [List.map_toArray, List.map_cons, List.map_nil]); first | done | rfl | (simp only [List.length_drop, List.length_take]; rfl)) ?_; (with_reducible refine (whetstoneref01_bits.calls kj5 a0 a1 a2 t216 _ A10.out).mono ?_); rintro e w11 ⟨rfl, hb⟩; refine ⟨_, rfl, ?_⟩; have n0_ := Aside0.mk (below_step (by repeat (first | (with_reducible first | exact HB.out | apply below_alloc | apply pw_below_drewN | apply below_drew1) | exact HB.out)) hb); clear HB; have HB := n0_; clear n0_; (try clear hb); (try clear hb2); (try clear hk); (try clear hi)))
      go_ret2
      exact ⟨by first | rfl | (simp [errW_none, errW_some] <;> rfl) | (simp [*, errW_none, errW_some] <;> rfl), by repeat (first | (with_reducible first | exact HB.out | apply below_alloc | apply pw_below_drewN | apply below_drew1) | exact HB.out)⟩
     ·replace c9 := Bool.eq_false_iff.mpr c9
      subst c9
      have H1 : (if a0 = 29 then ((whetstoneref01_shift.f kj5 a1 (wrap64 (Int.tmod a2 32)) 0).bind fun t217 => (some (t217, 0))) else (if a0 = 33 then ((whetstoneref01_shift.f kj5 a1 (wrap64 (-(wrap64 (Int.tmod a2 32)))) 0).bind fun t218 => (some (t218, 0))) else (if a0 = 34 then ((whetstoneref01_Bit.f a1 31).bind fun t219 => ((whetstoneref01_shift.f kj5 a1 (wrap64 (-(wrap64 (Int.tmod a2 32)))) t219).bind fun t220 => (some (t220, 0)))) else (if a0 = 30 then ((whetstoneref01_Num.f a1).bind fun t221 => ((whetstoneref01_Num.f a2).bind fun t222 => ((whetstoneref01_one.f (decide (t221 < t222))).bind fun t223 => (some (t223, 0))))) else (if a0 = 31 then ((whetstoneref01_one.f (decide (a1 < a2))).bind fun t224 => (some (t224, 0))) else (if a0 = 37 then (some ((a1 * a2) % 4294967296, 0)) else (if a0 = 38 then (whetstoneref01_Do.j1 kj5 a0 a1 a2 a0 (a0 == 38)) else (if a0 = 39 then (whetstoneref01_Do.j1 kj5 a0 a1 a2 a0 (a0 == 39)) else (whetstoneref01_Do.j1 kj5 a0 a1 a2 a0 (a0 == 40)))))))))) = some (r1, r2) := by rw [if_neg (show ¬ (false = true) by decide)] at H; exact H
      clear H
      have H := H1
      clear H1
      by_cases c12 : a0 = 29
      ·rw [if_pos c12] at H
       have c12b0 : (a0 == 29) = true := beq_iff_eq.mpr c12
       have c12b1 : (a0 != 29) = false := bne_eq_false_iff_eq.mpr c12
       clear c12
       replace H := Option.bind_eq_some_iff.mp H
       obtain ⟨t217, A130, H⟩ := H
       replace H : (some (t217, 0)) = some (r1, r2) := H
       have A13 := Aside0.mk A130
       clear A130
       simp only [Option.some.injEq, Prod.mk.injEq] at H
       obtain ⟨rfl, rfl⟩ := H
       go_wp2_with (first | ((with_reducible refine gate_callee (f := 58) rfl ?_); refine goesL_ (some 35) rfl rfl Try.func58 (by kernel_rfl) rfl #[.int .u32 a1, .int .i64 (wrap64 (Int.tmod a2 32)), .int .u32 0] rfl (by (try simp only [List.map_toArray, List.map_cons, List.map_nil]); first | done | rfl | (simp only [List.length_drop, List.length_take]; rfl)) ?_; (with_reducible refine (whetstoneref01_shift.calls kj5 a1 (wrap64 (Int.tmod a2 32)) 0 t217 _ A13.out).mono ?_); rintro e w14 ⟨rfl, hb⟩; refine ⟨_, rfl, ?_⟩; have n0_ := Aside0.mk (below_step (by repeat (first | (with_reducible first | exact HB.out | apply below_alloc | apply pw_below_drewN | apply below_drew1) | exact HB.out)) hb); clear HB; have HB := n0_; clear n0_; (try clear hb); (try clear hb2); (try clear hk); (try clear hi)))
       go_ret2
       exact ⟨by first | rfl | (simp [errW_none, errW_some] <;> rfl) | (simp [*, errW_none, errW_some] <;> rfl), by repeat (first | (with_reducible first | exact HB.out | apply below_alloc | apply pw_below_drewN | apply below_drew1) | exact HB.out)⟩
      ·rw [if_neg c12] at H
       have c12b0 : (a0 == 29) = false := beq_eq_false_iff_ne.mpr c12
       have c12b1 : (a0 != 29) = true := bne_iff_ne.mpr c12
       by_cases c15 : a0 = 33
       ·rw [if_pos c15] at H
        have c15b0 : (a0 == 33) = true := beq_iff_eq.mpr c15
        have c15b1 : (a0 != 33) = false := bne_eq_false_iff_eq.mpr c15
        clear c15
        replace H := Option.bind_eq_some_iff.mp H
        obtain ⟨t218, A160, H⟩ := H
        replace H : (some (t218, 0)) = some (r1, r2) := H
        have A16 := Aside0.mk A160
        clear A160
        simp only [Option.some.injEq, Prod.mk.injEq] at H
        obtain ⟨rfl, rfl⟩ := H
        go_wp2_with (first | ((with_reducible refine gate_callee (f := 58) rfl ?_); refine goesL_ (some 41) rfl rfl Try.func58 (by kernel_rfl) rfl #[.int .u32 a1, .int .i64 (wrap64 (-(wrap64 (Int.tmod a2 32)))), .int .u32 0] rfl (by (try simp only [List.map_toArray, List.map_cons, List.map_nil]); first | done | rfl | (simp only [List.length_drop, List.length_take]; rfl)) ?_; (with_reducible refine (whetstoneref01_shift.calls kj5 a1 (wrap64 (-(wrap64 (Int.tmod a2 32)))) 0 t218 _ A16.out).mono ?_); rintro e w17 ⟨rfl, hb⟩; refine ⟨_, rfl, ?_⟩; have n0_ := Aside0.mk (below_step (by repeat (first | (with_reducible first | exact HB.out | apply below_alloc | apply pw_below_drewN | apply below_drew1) | exact HB.out)) hb); clear HB; have HB := n0_; clear n0_; (try clear hb); (try clear hb2); (try clear hk); (try clear hi)))
        go_ret2
        exact ⟨by first | rfl | (simp [errW_none, errW_some] <;> rfl) | (simp [*, errW_none, errW_some] <;> rfl), by repeat (first | (with_reducible first | exact HB.out | apply below_alloc | apply pw_below_drewN | apply below_drew1) | exact HB.out)⟩
       ·rw [if_neg c15] at H
        have c15b0 : (a0 == 33) = false := beq_eq_false_iff_ne.mpr c15
        have c15b1 : (a0 != 33) = true := bne_iff_ne.mpr c15
        by_cases c18 : a0 = 34
        ·rw [if_pos c18] at H
         have c18b0 : (a0 == 34) = true := beq_iff_eq.mpr c18
         have c18b1 : (a0 != 34) = false := bne_eq_false_iff_eq.mpr c18
         clear c18
         replace H := Option.bind_eq_some_iff.mp H
         obtain ⟨t219, A190, H⟩ := H
         replace H : ((whetstoneref01_shift.f kj5 a1 (wrap64 (-(wrap64 (Int.tmod a2 32)))) t219).bind fun t220 => (some (t220, 0))) = some (r1, r2) := H
         have A19 := Aside0.mk A190
         clear A190
         replace H := Option.bind_eq_some_iff.mp H
         obtain ⟨t220, A200, H⟩ := H
         replace H : (some (t220, 0)) = some (r1, r2) := H
         have A20 := Aside0.mk A200
         clear A200
         simp only [Option.some.injEq, Prod.mk.injEq] at H
         obtain ⟨rfl, rfl⟩ := H
         go_wp2_with (first | ((with_reducible refine gate_callee (f := 45) rfl ?_); refine goesL_ (some 48) rfl rfl Try.func45 (by kernel_rfl) rfl #[.int .u32 a1, .int .i64 31] rfl (by (try simp only [List.map_toArray, List.map_cons, List.map_nil]); first | done | rfl | (simp only [List.length_drop, List.length_take]; rfl)) ?_; (with_reducible refine (whetstoneref01_Bit.calls a1 31 t219 _ A19.out).mono ?_); rintro e w' ⟨rfl, ⟨nd, rfl⟩⟩; refine ⟨_, rfl, ?_⟩) | ((with_reducible refine gate_callee (f := 58) rfl ?_); refine goesL_ (some 49) rfl rfl Try.func58 (by kernel_rfl) rfl #[.int .u32 a1, .int .i64 (wrap64 (-(wrap64 (Int.tmod a2 32)))), .int .u32 t219] rfl (by (try simp only [List.map_toArray, List.map_cons, List.map_nil]); first | done | rfl | (simp only [List.length_drop, List.length_take]; rfl)) ?_; (with_reducible refine (whetstoneref01_shift.calls kj5 a1 (wrap64 (-(wrap64 (Int.tmod a2 32)))) t219 t220 _ A20.out).mono ?_); rintro e w21 ⟨rfl, hb⟩; refine ⟨_, rfl, ?_⟩; have n0_ := Aside0.mk (below_step (by repeat (first | (with_reducible first | exact HB.out | apply below_alloc | apply pw_below_drewN | apply below_drew1) | exact HB.out)) hb); clear HB; have HB := n0_; clear n0_; (try clear hb); (try clear hb2); (try clear hk); (try clear hi)))
         go_ret2
         exact ⟨by first | rfl | (simp [errW_none, errW_some] <;> rfl) | (simp [*, errW_none, errW_some] <;> rfl), by repeat (first | (with_reducible first | exact HB.out | apply below_alloc | apply pw_below_drewN | apply below_drew1) | exact HB.out)⟩
        ·rw [if_neg c18] at H
         have c18b0 : (a0 == 34) = false := beq_eq_false_iff_ne.mpr c18
         have c18b1 : (a0 != 34) = true := bne_iff_ne.mpr c18
         by_cases c22 : a0 = 30
         ·rw [if_pos c22] at H
          have c22b0 : (a0 == 30) = true := beq_iff_eq.mpr c22
          have c22b1 : (a0 != 30) = false := bne_eq_false_iff_eq.mpr c22
          clear c22
          replace H := Option.bind_eq_some_iff.mp H
          obtain ⟨t221, A230, H⟩ := H
          replace H : ((whetstoneref01_Num.f a2).bind fun t222 => ((whetstoneref01_one.f (decide (t221 < t222))).bind fun t223 => (some (t223, 0)))) = some (r1, r2) := H
          have A23 := Aside0.mk A230
          clear A230
          replace H := Option.bind_eq_some_iff.mp H
          obtain ⟨t222, A240, H⟩ := H
          replace H : ((whetstoneref01_one.f (decide (t221 < t222))).bind fun t223 => (some (t223, 0))) = some (r1, r2) := H
          have A24 := Aside0.mk A240
          clear A240
          replace H := Option.bind_eq_some_iff.mp H
          obtain ⟨t223, A250, H⟩ := H
          replace H : (some (t223, 0)) = some (r1, r2) := H
          have A25 := Aside0.mk A250
          clear A250
          simp only [Option.some.injEq, Prod.mk.injEq] at H
          obtain ⟨rfl, rfl⟩ := H
          go_wp2_with (first | ((with_reducible refine gate_callee (f := 60) rfl ?_); refine goesL_ (some 53) rfl rfl Try.func60 (by kernel_rfl) rfl #[.int .u32 a1] rfl (by (try simp only [List.map_toArray, List.map_cons, List.map_nil]); first | done | rfl | (simp only [List.length_drop, List.length_take]; rfl)) ?_; (with_reducible refine (whetstoneref01_Num.calls a1 t221 _ A23.out).mono ?_); rintro e w' ⟨rfl, ⟨nd, rfl⟩⟩; refine ⟨_, rfl, ?_⟩) | ((with_reducible refine gate_callee (f := 60) rfl ?_); refine goesL_ (some 55) rfl rfl Try.func60 (by kernel_rfl) rfl #[.int .u32 a2] rfl (by (try simp only [List.map_toArray, List.map_cons, List.map_nil]); first | done | rfl | (simp only [List.length_drop, List.length_take]; rfl)) ?_; (with_reducible refine (whetstoneref01_Num.calls a2 t222 _ A24.out).mono ?_); rintro e w' ⟨rfl, ⟨nd, rfl⟩⟩; refine ⟨_, rfl, ?_⟩) | ((with_reducible refine gate_callee (f := 59) rfl ?_); refine goesL_ (some 57) rfl rfl Try.func59 (by kernel_rfl) rfl #[.bool (decide (t221 < t222))] rfl (by (try simp only [List.map_toArray, List.map_cons, List.map_nil]); first | done | rfl | (simp only [List.length_drop, List.length_take]; rfl)) ?_; (with_reducible refine (whetstoneref01_one.calls (decide (t221 < t222)) t223 _ A25.out).mono ?_); rintro e w' ⟨rfl, ⟨nd, rfl⟩⟩; refine ⟨_, rfl, ?_⟩))
          go_ret2
          exact ⟨by first | rfl | (simp [errW_none, errW_some] <;> rfl) | (simp [*, errW_none, errW_some] <;> rfl), by repeat (first | (with_reducible first | exact HB.out | apply below_alloc | apply pw_below_drewN | apply below_drew1) | exact HB.out)⟩
         ·rw [if_neg c22] at H
          have c22b0 : (a0 == 30) = false := beq_eq_false_iff_ne.mpr c22
          have c22b1 : (a0 != 30) = true := bne_iff_ne.mpr c22
          by_cases c26 : a0 = 31
          ·rw [if_pos c26] at H
           have c26b0 : (a0 == 31) = true := beq_iff_eq.mpr c26
           have c26b1 : (a0 != 31) = false := bne_eq_false_iff_eq.mpr c26
           clear c26
           replace H := Option.bind_eq_some_iff.mp H
           obtain ⟨t224, A270, H⟩ := H
           replace H : (some (t224, 0)) = some (r1, r2) := H
           have A27 := Aside0.mk A270
           clear A270
           simp only [Option.some.injEq, Prod.mk.injEq] at H
           obtain ⟨rfl, rfl⟩ := H
           go_wp2_with (first | ((with_reducible refine gate_callee (f := 59) rfl ?_); refine goesL_ (some 63) rfl rfl Try.func59 (by kernel_rfl) rfl #[.bool (decide (a1 < a2))] rfl (by (try simp only [List.map_toArray, List.map_cons, List.map_nil]); first | done | rfl | (simp only [List.length_drop, List.length_take]; rfl)) ?_; (with_reducible refine (whetstoneref01_one.calls (decide (a1 < a2)) t224 _ A27.out).mono ?_); rintro e w' ⟨rfl, ⟨nd, rfl⟩⟩; refine ⟨_, rfl, ?_⟩))
           go_ret2
           exact ⟨by first | rfl | (simp [errW_none, errW_some] <;> rfl) | (simp [*, errW_none, errW_some] <;> rfl), by repeat (first | (with_reducible first | exact HB.out | apply below_alloc | apply pw_below_drewN | apply below_drew1) | exact HB.out)⟩
          ·rw [if_neg c26] at H
           have c26b0 : (a0 == 31) = false := beq_eq_false_iff_ne.mpr c26
           have c26b1 : (a0 != 31) = true := bne_iff_ne.mpr c26
           by_cases c28 : a0 = 37
           ·rw [if_pos c28] at H
            have c28b0 : (a0 == 37) = true := beq_iff_eq.mpr c28
            have c28b1 : (a0 != 37) = false := bne_eq_false_iff_eq.mpr c28
            clear c28
            simp only [Option.some.injEq, Prod.mk.injEq] at H
            obtain ⟨rfl, rfl⟩ := H
            go_wp2
            go_ret2
            exact ⟨by first | rfl | (simp [errW_none, errW_some] <;> rfl) | (simp [*, errW_none, errW_some] <;> rfl), by repeat (first | (with_reducible first | exact HB.out | apply below_alloc | apply pw_below_drewN | apply below_drew1) | exact HB.out)⟩
           ·rw [if_neg c28] at H
            have c28b0 : (a0 == 37) = false := beq_eq_false_iff_ne.mpr c28
            have c28b1 : (a0 != 37) = true := bne_iff_ne.mpr c28
            have HC29 := Aside0.mk H
            clear H
            go_upto_if 69 with (fail)
            go_cut [69] (fun v69 wc => ∃ (kq : Nat) (x69_28 : Bool), v69 = .bool x69_28 ∧ Aside0 (whetstoneref01_Do.j1 kq a0 a1 a2 a0 x69_28 = some (r1, r2)) ∧ Aside0 (kq ≤ kj5) ∧ Aside0 (Below w.heap.size w wc))
            case first =>
             have H := HC29.out
             clear HC29
             by_cases c30 : a0 = 38
             ·rw [if_pos c30] at H
              have c30b0 : (a0 == 38) = true := beq_iff_eq.mpr c30
              have c30b1 : (a0 != 38) = false := bne_eq_false_iff_eq.mpr c30
              clear c30
              (first | rw [c30b0] | (simp only [i64_w, i32_w]; rw [c30b0]) | skip)
              have H' := Aside0.mk H
              clear H
              go_wp2
              go_meet
              case rel => exact ⟨_, ((a0 == 38)), (by first | rfl | (simp; done) | (simp [*]; done)), H', ⟨by have := HJ5.out; first | omega | exact Nat.le_refl _⟩, ⟨by repeat (first | (with_reducible first | exact HB.out | apply below_alloc | apply pw_below_drewN | apply below_drew1) | exact HB.out)⟩⟩
             ·rw [if_neg c30] at H
              have c30b0 : (a0 == 38) = false := beq_eq_false_iff_ne.mpr c30
              have c30b1 : (a0 != 38) = true := bne_iff_ne.mpr c30
              (first | rw [c30b0] | (simp only [i64_w, i32_w]; rw [c30b0]) | skip)
              by_cases c31 : a0 = 39
              ·rw [if_pos c31] at H
               have c31b0 : (a0 == 39) = true := beq_iff_eq.mpr c31
               have c31b1 : (a0 != 39) = false := bne_eq_false_iff_eq.mpr c31
               clear c31
               have H' := Aside0.mk H
               clear H
               go_wp2
               go_meet
               case rel => exact ⟨_, ((a0 == 39)), (by first | rfl | (simp; done) | (simp [*]; done)), H', ⟨by have := HJ5.out; first | omega | exact Nat.le_refl _⟩, ⟨by repeat (first | (with_reducible first | exact HB.out | apply below_alloc | apply pw_below_drewN | apply below_drew1) | exact HB.out)⟩⟩
              ·rw [if_neg c31] at H
               have c31b0 : (a0 == 39) = false := beq_eq_false_iff_ne.mpr c31
               have c31b1 : (a0 != 39) = true := bne_iff_ne.mpr c31
               have H' := Aside0.mk H
               clear H
               go_wp2
               go_meet
               case rel => exact ⟨_, ((a0 == 40)), (by first | rfl | (simp; done) | (simp [*]; done)), H', ⟨by have := HJ5.out; first | omega | exact Nat.le_refl _⟩, ⟨by repeat (first | (with_reducible first | exact HB.out | apply below_alloc | apply pw_below_drewN | apply below_drew1) | exact HB.out)⟩⟩
            case rest =>
             clear HC29
             try clear c1
             try clear c2
             try clear p2
             try clear c3
             try clear c4
             try clear c4b0
             try clear c4b1
             try clear c5
             try clear c5b0
             try clear c5b1
             try clear c6
             try clear p6
             try clear c7
             try clear c7b0
             try clear c7b1
             try clear c8
             try clear c8b0
             try clear c8b1
             try clear c9
             try clear c12
             try clear c12b0
             try clear c12b1
             try clear c15
             try clear c15b0
             try clear c15b1
             try clear c18
             try clear c18b0
             try clear c18b1
             try clear c22
             try clear c22b0
             try clear c22b1
             try clear c26
             try clear c26b0
             try clear c26b1
             try clear c27
             try clear c28
             try clear c28b0
             try clear c28b1
             try clear c30
             try clear c30b0
             try clear c30b1
             try clear c31
             try clear c31b0
             try clear c31b1
             try clear p2
             try clear p6
             obtain ⟨kq, x69_28, rfl, HA, HJ28, HB⟩ := hcut
             cases kq with
             | zero => exact absurd HA.out (by simp [whetstoneref01_Do.j1])
             | succ kj28 =>
              have H := HA.out
              clear HA
              simp only [whetstoneref01_Do.j1] at H
              by_cases c32 : x69_28 = true
              ·subst c32
               have H1 : ((whetstoneref01_high.f kj28 a0 a1 a2).bind fun t225 => (some (t225, 0))) = some (r1, r2) := by rw [if_pos rfl] at H; exact H
               clear H
               have H := H1
               clear H1
               replace H := Option.bind_eq_some_iff.mp H
               obtain ⟨t225, A330, H⟩ := H
               replace H : (some (t225, 0)) = some (r1, r2) := H
               have A33 := Aside0.mk A330
               clear A330
               simp only [Option.some.injEq, Prod.mk.injEq] at H
               obtain ⟨rfl, rfl⟩ := H
               go_wp2_with (first | ((with_reducible refine gate_callee (f := 61) rfl ?_); refine goesL_ (some 76) rfl rfl Try.func61 (by kernel_rfl) rfl #[.int .i64 a0, .int .u32 a1, .int .u32 a2] rfl (by (try simp only [List.map_toArray, List.map_cons, List.map_nil]); first | done | rfl | (simp only [List.length_drop, List.length_take]; rfl)) ?_; (with_reducible refine (whetstoneref01_high.calls kj28 a0 a1 a2 t225 _ A33.out).mono ?_); rintro e w' ⟨rfl, ⟨nd, rfl⟩⟩; refine ⟨_, rfl, ?_⟩))
               go_ret2
               exact ⟨by first | rfl | (simp [errW_none, errW_some] <;> rfl) | (simp [*, errW_none, errW_some] <;> rfl), by repeat (first | (with_reducible first | exact HB.out | apply below_alloc | apply pw_below_drewN | apply below_drew1) | exact HB.out)⟩
              ·replace c32 := Bool.eq_false_iff.mpr c32
               subst c32
               have H1 : (if a0 = 41 then ((whetstoneref01_div.f kj28 a0 a1 a2).bind fun t226 => (some (t226, 0))) else (if a0 = 42 then ((whetstoneref01_div.f kj28 a0 a1 a2).bind fun t227 => (some (t227, 0))) else (if a0 = 43 then ((whetstoneref01_div.f kj28 a0 a1 a2).bind fun t228 => (some (t228, 0))) else (if a0 = 44 then ((whetstoneref01_div.f kj28 a0 a1 a2).bind fun t229 => (some (t229, 0))) else (some (0, 1)))))) = some (r1, r2) := by rw [if_neg (show ¬ (false = true) by decide)] at H; exact H
               clear H
               have H := H1
               clear H1
               by_cases c34 : a0 = 41
               ·rw [if_pos c34] at H
                have c34b0 : (a0 == 41) = true := beq_iff_eq.mpr c34
                have c34b1 : (a0 != 41) = false := bne_eq_false_iff_eq.mpr c34
                clear c34
                replace H := Option.bind_eq_some_iff.mp H
                obtain ⟨t226, A350, H⟩ := H
                replace H : (some (t226, 0)) = some (r1, r2) := H
                have A35 := Aside0.mk A350
                clear A350
                simp only [Option.some.injEq, Prod.mk.injEq] at H
                obtain ⟨rfl, rfl⟩ := H
                go_wp2_with (first | ((with_reducible refine gate_callee (f := 62) rfl ?_); refine goesL_ (some 85) rfl rfl Try.func62 (by kernel_rfl) rfl #[.int .i64 a0, .int .u32 a1, .int .u32 a2] rfl (by (try simp only [List.map_toArray, List.map_cons, List.map_nil]); first | done | rfl | (simp only [List.length_drop, List.length_take]; rfl)) ?_; (with_reducible refine (whetstoneref01_div.calls kj28 a0 a1 a2 t226 _ A35.out).mono ?_); rintro e w' ⟨rfl, ⟨nd, rfl⟩⟩; refine ⟨_, rfl, ?_⟩))
                go_ret2
                exact ⟨by first | rfl | (simp [errW_none, errW_some] <;> rfl) | (simp [*, errW_none, errW_some] <;> rfl), by repeat (first | (with_reducible first | exact HB.out | apply below_alloc | apply pw_below_drewN | apply below_drew1) | exact HB.out)⟩
               ·rw [if_neg c34] at H
                have c34b0 : (a0 == 41) = false := beq_eq_false_iff_ne.mpr c34
                have c34b1 : (a0 != 41) = true := bne_iff_ne.mpr c34
                by_cases c36 : a0 = 42
                ·rw [if_pos c36] at H
                 have c36b0 : (a0 == 42) = true := beq_iff_eq.mpr c36
                 have c36b1 : (a0 != 42) = false := bne_eq_false_iff_eq.mpr c36
                 clear c36
                 replace H := Option.bind_eq_some_iff.mp H
                 obtain ⟨t227, A370, H⟩ := H
                 replace H : (some (t227, 0)) = some (r1, r2) := H
                 have A37 := Aside0.mk A370
                 clear A370
                 simp only [Option.some.injEq, Prod.mk.injEq] at H
                 obtain ⟨rfl, rfl⟩ := H
                 go_wp2_with (first | ((with_reducible refine gate_callee (f := 62) rfl ?_); refine goesL_ (some 85) rfl rfl Try.func62 (by kernel_rfl) rfl #[.int .i64 a0, .int .u32 a1, .int .u32 a2] rfl (by (try simp only [List.map_toArray, List.map_cons, List.map_nil]); first | done | rfl | (simp only [List.length_drop, List.length_take]; rfl)) ?_; (with_reducible refine (whetstoneref01_div.calls kj28 a0 a1 a2 t227 _ A37.out).mono ?_); rintro e w' ⟨rfl, ⟨nd, rfl⟩⟩; refine ⟨_, rfl, ?_⟩))
                 go_ret2
                 exact ⟨by first | rfl | (simp [errW_none, errW_some] <;> rfl) | (simp [*, errW_none, errW_some] <;> rfl), by repeat (first | (with_reducible first | exact HB.out | apply below_alloc | apply pw_below_drewN | apply below_drew1) | exact HB.out)⟩
                ·rw [if_neg c36] at H
                 have c36b0 : (a0 == 42) = false := beq_eq_false_iff_ne.mpr c36
                 have c36b1 : (a0 != 42) = true := bne_iff_ne.mpr c36
                 by_cases c38 : a0 = 43
                 ·rw [if_pos c38] at H
                  have c38b0 : (a0 == 43) = true := beq_iff_eq.mpr c38
                  have c38b1 : (a0 != 43) = false := bne_eq_false_iff_eq.mpr c38
                  clear c38
                  replace H := Option.bind_eq_some_iff.mp H
                  obtain ⟨t228, A390, H⟩ := H
                  replace H : (some (t228, 0)) = some (r1, r2) := H
                  have A39 := Aside0.mk A390
                  clear A390
                  simp only [Option.some.injEq, Prod.mk.injEq] at H
                  obtain ⟨rfl, rfl⟩ := H
                  go_wp2_with (first | ((with_reducible refine gate_callee (f := 62) rfl ?_); refine goesL_ (some 85) rfl rfl Try.func62 (by kernel_rfl) rfl #[.int .i64 a0, .int .u32 a1, .int .u32 a2] rfl (by (try simp only [List.map_toArray, List.map_cons, List.map_nil]); first | done | rfl | (simp only [List.length_drop, List.length_take]; rfl)) ?_; (with_reducible refine (whetstoneref01_div.calls kj28 a0 a1 a2 t228 _ A39.out).mono ?_); rintro e w' ⟨rfl, ⟨nd, rfl⟩⟩; refine ⟨_, rfl, ?_⟩))
                  go_ret2
                  exact ⟨by first | rfl | (simp [errW_none, errW_some] <;> rfl) | (simp [*, errW_none, errW_some] <;> rfl), by repeat (first | (with_reducible first | exact HB.out | apply below_alloc | apply pw_below_drewN | apply below_drew1) | exact HB.out)⟩
                 ·rw [if_neg c38] at H
                  have c38b0 : (a0 == 43) = false := beq_eq_false_iff_ne.mpr c38
                  have c38b1 : (a0 != 43) = true := bne_iff_ne.mpr c38
                  by_cases c40 : a0 = 44
                  ·rw [if_pos c40] at H
                   have c40b0 : (a0 == 44) = true := beq_iff_eq.mpr c40
                   have c40b1 : (a0 != 44) = false := bne_eq_false_iff_eq.mpr c40
                   clear c40
                   replace H := Option.bind_eq_some_iff.mp H
                   obtain ⟨t229, A410, H⟩ := H
                   replace H : (some (t229, 0)) = some (r1, r2) := H
                   have A41 := Aside0.mk A410
                   clear A410
                   simp only [Option.some.injEq, Prod.mk.injEq] at H
                   obtain ⟨rfl, rfl⟩ := H
                   go_wp2_with (first | ((with_reducible refine gate_callee (f := 62) rfl ?_); refine goesL_ (some 85) rfl rfl Try.func62 (by kernel_rfl) rfl #[.int .i64 a0, .int .u32 a1, .int .u32 a2] rfl (by (try simp only [List.map_toArray, List.map_cons, List.map_nil]); first | done | rfl | (simp only [List.length_drop, List.length_take]; rfl)) ?_; (with_reducible refine (whetstoneref01_div.calls kj28 a0 a1 a2 t229 _ A41.out).mono ?_); rintro e w' ⟨rfl, ⟨nd, rfl⟩⟩; refine ⟨_, rfl, ?_⟩))
                   go_ret2
                   exact ⟨by first | rfl | (simp [errW_none, errW_some] <;> rfl) | (simp [*, errW_none, errW_some] <;> rfl), by repeat (first | (with_reducible first | exact HB.out | apply below_alloc | apply pw_below_drewN | apply below_drew1) | exact HB.out)⟩
                  ·rw [if_neg c40] at H
                   have c40b0 : (a0 == 44) = false := beq_eq_false_iff_ne.mpr c40
                   have c40b1 : (a0 != 44) = true := bne_iff_ne.mpr c40
                   simp only [Option.some.injEq, Prod.mk.injEq] at H
                   obtain ⟨rfl, rfl⟩ := H
                   go_wp2
                   go_ret2
                   exact ⟨by first | rfl | (simp [errW_none, errW_some] <;> rfl) | (simp [*, errW_none, errW_some] <;> rfl), by repeat (first | (with_reducible first | exact HB.out | apply below_alloc | apply pw_below_drewN | apply below_drew1) | exact HB.out)⟩
end Go.Proofs.Ytononmcodecmaaa.Q
