import Derived.Test.YtononmcodecmaaaJQx0
import Derived.Test.YtononmcodecmaaaJQx21
namespace Go.Proofs.Ytononmcodecmaaa.Q
open Go.RowKit Go.Proofs.YtononmcodecmaaaW.PrintWords Go.Proofs.YtononmcodecmaaaW.PrintLast Go.Proofs.YtononmcodecmaaaW.PrintMore
attribute [local go_sem] max2_int min2_int max_two min_two max_three min_three max_four min_four   -- for this text's walks alone
attribute [local go_sem] imax_u32 imax_u8 isg_u32 isg_u8
set_option linter.unusedVariables false
set_option linter.unusedSimpArgs false
def whetstoneref01_high.j0 : Nat → Int → Int → Int → Int → Bool → Option (Int)
 | 0, _, _, _, _, _ => none
 | k + 1, x0, x1, x2, x7, x16 => if x16 = true then (if x0 = 38 then (if x2 ≥ 2147483648 then (some (((x7 - x2) - x1) % 4294967296)) else (some ((x7 - x2) % 4294967296))) else (some ((x7 - x2) % 4294967296))) else (if x0 = 38 then (if x2 ≥ 2147483648 then (some ((x7 - x1) % 4294967296)) else (some x7)) else (some x7))
def whetstoneref01_high.f (k : Nat) (a0 : Int) (a1 : Int) (a2 : Int) : Option (Int) := (whetstoneref01_halves.f a1 a2).bind fun t213 => (if a0 = 40 then (whetstoneref01_high.j0 k a0 a1 a2 t213 false) else (whetstoneref01_high.j0 k a0 a1 a2 t213 (decide (a1 ≥ 2147483648))))
theorem whetstoneref01_high.mono_l : ∀ k, (∀ y0 y1 y2 y3 y4, LeO (whetstoneref01_high.j0 k y0 y1 y2 y3 y4) (whetstoneref01_high.j0 (k + 1) y0 y1 y2 y3 y4))
 | 0 => fun _ _ _ _ _ r h => by simp [whetstoneref01_high.j0] at h
 | k + 1 => by
  have ih0 := whetstoneref01_high.mono_l k
  ·intro y0 y1 y2 y3 y4
   unfold whetstoneref01_high.j0
   repeat' first
   | (with_reducible exact ih0 _ _ _ _ _)
   | (with_reducible exact LeO.refl _)
   | (with_reducible exact LeO.none _)
   | (with_reducible refine LeO.ite ?_ ?_)
   | (with_reducible refine LeO.bind ?_ (fun _ => ?_))
   | exact ih0 _ _ _ _ _
   | exact LeO.none _
   | refine LeO.ite ?_ ?_
   | refine LeO.bind ?_ (fun _ => ?_)
theorem whetstoneref01_high.mono : ∀ a0 a1 a2 k, LeO (whetstoneref01_high.f k a0 a1 a2) (whetstoneref01_high.f (k + 1) a0 a1 a2) := by
 intro a0 a1 a2 k
 have ih0 := whetstoneref01_high.mono_l k
 unfold whetstoneref01_high.f
 repeat' first
   | (with_reducible exact ih0 _ _ _ _ _)
   | (with_reducible exact LeO.refl _)
   | (with_reducible exact LeO.none _)
   | (with_reducible refine LeO.ite ?_ ?_)
   | (with_reducible refine LeO.bind ?_ (fun _ => ?_))
   | exact ih0 _ _ _ _ _
   | exact LeO.none _
   | refine LeO.ite ?_ ?_
   | refine LeO.bind ?_ (fun _ => ?_)
set_option maxHeartbeats 8000000 in
set_option maxRecDepth 100000 in
theorem whetstoneref01_high.calls (k : Nat) (a0 : Int) (a1 : Int) (a2 : Int) (r : Int) (w : World) (h : whetstoneref01_high.f k a0 a1 a2 = some r) :
  Calls Try.prog 61 #[.int .i64 a0, .int .u32 a1, .int .u32 a2] w fun e w' => e = .returned (.int .u32 r) ∧ Drawn0 w w' := by
 have H : ((whetstoneref01_halves.f a1 a2).bind fun t213 => (if a0 = 40 then (whetstoneref01_high.j0 k a0 a1 a2 t213 false) else (whetstoneref01_high.j0 k a0 a1 a2 t213 (decide (a1 ≥ 2147483648))))) = some r := h
 clear h
 replace H := Option.bind_eq_some_iff.mp H
 obtain ⟨t213, A40, H⟩ := H
 replace H : (if a0 = 40 then (whetstoneref01_high.j0 k a0 a1 a2 t213 false) else (whetstoneref01_high.j0 k a0 a1 a2 t213 (decide (a1 ≥ 2147483648)))) = some r := H
 have A4 := Aside0.mk A40
 clear A40
 have HC5 := Aside0.mk H
 clear H
 go_enter Try.func61, Try.ntmps61
 go_upto_region 2 with (first | ((with_reducible refine gate_callee (f := 80) rfl ?_); refine goesL_ (some 10) rfl rfl Try.func80 (by kernel_rfl) rfl #[.int .u32 a1, .int .u32 a2] rfl (by (try simp only [List.map_toArray, List.map_cons, List.map_nil]); first | done | rfl | (simp only [List.length_drop, List.length_take]; rfl)) ?_; (with_reducible refine (whetstoneref01_halves.calls a1 a2 t213 _ A4.out).mono ?_); rintro e w' ⟨rfl, ⟨nd, rfl⟩⟩; refine ⟨_, rfl, ?_⟩))
 (try simp only [Act.put, List.setIfInBounds_toArray, List.set_cons_zero, List.set_cons_succ])
 go_cut [16] (fun v16 wc => ∃ (kq : Nat) (x16_4 : Bool), v16 = .bool x16_4 ∧ Aside0 (whetstoneref01_high.j0 kq a0 a1 a2 t213 x16_4 = some r) ∧ Aside0 (kq ≤ k) ∧ Drawn0 w wc)
 case first =>
  have H := HC5.out
  clear HC5
  by_cases c6 : a0 = 40
  ·rw [if_pos c6] at H
   have c6b0 : (a0 == 40) = true := beq_iff_eq.mpr c6
   have c6b1 : (a0 != 40) = false := bne_eq_false_iff_eq.mpr c6
   clear c6
   (first | rw [c6b0] | (simp only [i64_w, i32_w]; rw [c6b0]) | skip)
   have H' := Aside0.mk H
   clear H
   go_wp2
   go_meet
   case rel => exact ⟨_, (false), (by first | rfl | (simp; done) | (simp [*]; done)), H', ⟨by first | omega | exact Nat.le_refl _⟩, by repeat (first | exact Drawn0.refl _ | apply Drawn0.step)⟩
  ·rw [if_neg c6] at H
   have c6b0 : (a0 == 40) = false := beq_eq_false_iff_ne.mpr c6
   have c6b1 : (a0 != 40) = true := bne_iff_ne.mpr c6
   (first | rw [c6b0] | (simp only [i64_w, i32_w]; rw [c6b0]) | skip)
   have H' := Aside0.mk H
   clear H
   go_wp2
   go_meet
   case rel => exact ⟨_, (decide (a1 ≥ 2147483648)), (by first | rfl | (simp; done) | (simp [*]; done)), H', ⟨by first | omega | exact Nat.le_refl _⟩, by repeat (first | exact Drawn0.refl _ | apply Drawn0.step)⟩
 case rest =>
  clear HC5
  try clear p2
  try clear c6
  try clear c6b0
  try clear c6b1
  obtain ⟨kq, x16_4, rfl, HA, HJ4, ⟨mc4, rfl⟩⟩ := hcut
  cases kq with
  | zero => exact absurd HA.out (by simp [whetstoneref01_high.j0])
  | succ kj4 =>
   have H := HA.out
   clear HA
   simp only [whetstoneref01_high.j0] at H
   by_cases c7 : x16_4 = true
   ·subst c7
    have H1 : (if a0 = 38 then (if a2 ≥ 2147483648 then (some (((t213 - a2) - a1) % 4294967296)) else (some ((t213 - a2) % 4294967296))) else (some ((t213 - a2) % 4294967296))) = some r := by rw [if_pos rfl] at H; exact H
    clear H
    have H := H1
    clear H1
    by_cases c8 : a0 = 38
    ·rw [if_pos c8] at H
     have c8b0 : (a0 == 38) = true := beq_iff_eq.mpr c8
     have c8b1 : (a0 != 38) = false := bne_eq_false_iff_eq.mpr c8
     clear c8
     by_cases c9 : a2 ≥ 2147483648
     ·rw [if_pos c9] at H
      have c9b0 : decide (2147483648 ≤ a2) = true := decide_eq_true c9
      clear c9
      obtain rfl := Option.some.inj H
      go_wp2
      go_ret
      exact ⟨by first | rfl | (simp; done) | (simp [*]; done), by repeat (first | exact Drawn0.refl _ | apply Drawn0.step)⟩
     ·rw [if_neg c9] at H
      have c9b0 : decide (2147483648 ≤ a2) = false := decide_eq_false c9
      clear c9
      obtain rfl := Option.some.inj H
      go_wp2
      go_ret
      exact ⟨by first | rfl | (simp; done) | (simp [*]; done), by repeat (first | exact Drawn0.refl _ | apply Drawn0.step)⟩
    ·rw [if_neg c8] at H
     have c8b0 : (a0 == 38) = false := beq_eq_false_iff_ne.mpr c8
     have c8b1 : (a0 != 38) = true := bne_iff_ne.mpr c8
     obtain rfl := Option.some.inj H
     go_wp2
     go_ret
     exact ⟨by first | rfl | (simp; done) | (simp [*]; done), by repeat (first | exact Drawn0.refl _ | apply Drawn0.step)⟩
   ·replace c7 := Bool.eq_false_iff.mpr c7
    subst c7
    have H1 : (if a0 = 38 then (if a2 ≥ 2147483648 then (some ((t213 - a1) % 4294967296)) else (some t213)) else (some t213)) = some r := by rw [if_neg (show ¬ (false = true) by decide)] at H; exact H
    clear H
    have H := H1
    clear H1
    by_cases c10 : a0 = 38
    ·rw [if_pos c10] at H
     have c10b0 : (a0 == 38) = true := beq_iff_eq.mpr c10
     have c10b1 : (a0 != 38) = false := bne_eq_false_iff_eq.mpr c10
     clear c10
     by_cases c11 : a2 ≥ 2147483648
     ·rw [if_pos c11] at H
      have c11b0 : decide (2147483648 ≤ a2) = true := decide_eq_true c11
      clear c11
      obtain rfl := Option.some.inj H
      go_wp2
      go_ret
      exact ⟨by first | rfl | (simp; done) | (simp [*]; done), by repeat (first | exact Drawn0.refl _ | apply Drawn0.step)⟩
     ·rw [if_neg c11] at H
      have c11b0 : decide (2147483648 ≤ a2) = false := decide_eq_false c11
      clear c11
      obtain rfl := Option.some.inj H
      go_wp2
      go_ret
      exact ⟨by first | rfl | (simp; done) | (simp [*]; done), by repeat (first | exact Drawn0.refl _ | apply Drawn0.step)⟩
    ·rw [if_neg c10] at H
     have c10b0 : (a0 == 38) = false := beq_eq_false_iff_ne.mpr c10
     have c10b1 : (a0 != 38) = true := bne_iff_ne.mpr c10
     obtain rfl := Option.some.inj H
     go_wp2
     go_ret
     exact ⟨by first | rfl | (simp; done) | (simp [*]; done), by repeat (first | exact Drawn0.refl _ | apply Drawn0.step)⟩
end Go.Proofs.Ytononmcodecmaaa.Q
