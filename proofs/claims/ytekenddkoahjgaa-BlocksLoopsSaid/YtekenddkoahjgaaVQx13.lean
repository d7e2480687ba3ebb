import Derived.Test.YtekenddkoahjgaaVQx0
namespace Go.Proofs.Ytekenddkoahjgaa.Q
open Go.RowKit Go.Proofs.YtekenddkoahjgaaW.PrintWords Go.Proofs.YtekenddkoahjgaaW.PrintLast Go.Proofs.YtekenddkoahjgaaW.PrintMore
attribute [local go_sem] max2_int min2_int max_two min_two max_three min_three max_four min_four   -- for this text's walks alone
attribute [local go_sem] imax_u32 imax_u8 isg_u32 isg_u8
set_option linter.unusedVariables false
set_option linter.unusedSimpArgs false
def whetstoneref01_may.f (a0 : Int) (a1 : Int) : Option (Bool) := if a0 ≥ 0 then (if a0 ≤ 31 then (if a1 ≥ 1 then (if a1 ≤ 32 then (some (decide ((wrap64 (a0 + a1)) ≤ 32))) else (some false)) else (some false)) else (some false)) else (some false)
set_option maxHeartbeats 8000000 in
set_option maxRecDepth 100000 in
theorem whetstoneref01_may.calls (a0 : Int) (a1 : Int) (r : Bool) (w : World) (h : whetstoneref01_may.f a0 a1 = some r) :
  Calls Try.prog 95 #[.int .i64 a0, .int .i64 a1] w fun e w' => e = .returned (.bool r) ∧ Drawn0 w w' := by
 have H : (if a0 ≥ 0 then (if a0 ≤ 31 then (if a1 ≥ 1 then (if a1 ≤ 32 then (some (decide ((wrap64 (a0 + a1)) ≤ 32))) else (some false)) else (some false)) else (some false)) else (some false)) = some r := h
 clear h
 by_cases c3 : a0 ≥ 0
 ·rw [if_pos c3] at H
  have c3b0 : decide (0 ≤ a0) = true := decide_eq_true c3
  clear c3
  by_cases c4 : a0 ≤ 31
  ·rw [if_pos c4] at H
   have c4b0 : decide (a0 ≤ 31) = true := decide_eq_true c4
   clear c4
   by_cases c5 : a1 ≥ 1
   ·rw [if_pos c5] at H
    have c5b0 : decide (1 ≤ a1) = true := decide_eq_true c5
    clear c5
    by_cases c6 : a1 ≤ 32
    ·rw [if_pos c6] at H
     have c6b0 : decide (a1 ≤ 32) = true := decide_eq_true c6
     clear c6
     obtain rfl := Option.some.inj H
     go_enter Try.func95, Try.ntmps95
     go_wp2
     go_ret
     exact ⟨by first | rfl | (simp; done) | (simp [*]; done), by repeat (first | exact Drawn0.refl _ | apply Drawn0.step)⟩
    ·rw [if_neg c6] at H
     have c6b0 : decide (a1 ≤ 32) = false := decide_eq_false c6
     clear c6
     obtain rfl := Option.some.inj H
     go_enter Try.func95, Try.ntmps95
     go_wp2
     go_ret
     exact ⟨by first | rfl | (simp; done) | (simp [*]; done), by repeat (first | exact Drawn0.refl _ | apply Drawn0.step)⟩
   ·rw [if_neg c5] at H
    have c5b0 : decide (1 ≤ a1) = false := decide_eq_false c5
    clear c5
    obtain rfl := Option.some.inj H
    go_enter Try.func95, Try.ntmps95
    go_wp2
    go_ret
    exact ⟨by first | rfl | (simp; done) | (simp [*]; done), by repeat (first | exact Drawn0.refl _ | apply Drawn0.step)⟩
  ·rw [if_neg c4] at H
   have c4b0 : decide (a0 ≤ 31) = false := decide_eq_false c4
   clear c4
   obtain rfl := Option.some.inj H
   go_enter Try.func95, Try.ntmps95
   go_wp2
   go_ret
   exact ⟨by first | rfl | (simp; done) | (simp [*]; done), by repeat (first | exact Drawn0.refl _ | apply Drawn0.step)⟩
 ·rw [if_neg c3] at H
  have c3b0 : decide (0 ≤ a0) = false := decide_eq_false c3
  clear c3
  obtain rfl := Option.some.inj H
  go_enter Try.func95, Try.ntmps95
  go_wp2
  go_ret
  exact ⟨by first | rfl | (simp; done) | (simp [*]; done), by repeat (first | exact Drawn0.refl _ | apply Drawn0.step)⟩
def whetstoneref01_Of.l0 : Nat → List Int → Int → Int → Option (Int)
 | 0, _, _, _ => none
 | k + 1, x0, x3, x4 => if x4 ≥ 0 then (if 0 ≤ x4 then (if x4 < (x0.length : Int) then (whetstoneref01_Of.l0 k x0 (((x3 * 2) + (rd x0 x4)) % 4294967296) (wrap64 (x4 - 1))) else (none)) else (none)) else (some x3)
def whetstoneref01_Of.f (k : Nat) (l0 : List Int) : Option (Int) := whetstoneref01_Of.l0 k l0 0 31
theorem whetstoneref01_Of.mono_l : ∀ k, (∀ y0 y1 y2, LeO (whetstoneref01_Of.l0 k y0 y1 y2) (whetstoneref01_Of.l0 (k + 1) y0 y1 y2))
 | 0 => fun _ _ _ r h => by simp [whetstoneref01_Of.l0] at h
 | k + 1 => by
  have ih0 := whetstoneref01_Of.mono_l k
  ·intro y0 y1 y2
   unfold whetstoneref01_Of.l0
   repeat' first
   | (with_reducible exact ih0 _ _ _)
   | (with_reducible exact LeO.refl _)
   | (with_reducible exact LeO.none _)
   | (with_reducible refine LeO.ite ?_ ?_)
   | (with_reducible refine LeO.bind ?_ (fun _ => ?_))
   | exact ih0 _ _ _
   | exact LeO.none _
   | refine LeO.ite ?_ ?_
   | refine LeO.bind ?_ (fun _ => ?_)
theorem whetstoneref01_Of.mono : ∀ a0 k, LeO (whetstoneref01_Of.f k a0) (whetstoneref01_Of.f (k + 1) a0) := by
 intro a0 k
 have ih0 := whetstoneref01_Of.mono_l k
 unfold whetstoneref01_Of.f
 repeat' first
   | (with_reducible exact ih0 _ _ _)
   | (with_reducible exact LeO.refl _)
   | (with_reducible exact LeO.none _)
   | (with_reducible refine LeO.ite ?_ ?_)
   | (with_reducible refine LeO.bind ?_ (fun _ => ?_))
   | exact ih0 _ _ _
   | exact LeO.none _
   | refine LeO.ite ?_ ?_
   | refine LeO.bind ?_ (fun _ => ?_)
set_option maxHeartbeats 8000000 in
set_option maxRecDepth 100000 in
theorem whetstoneref01_Of.calls (k : Nat) (A0 : Option Addr) (c0 : Nat) (l0 : List Int) (r : Int) (w : World) (hr0 : Kd.C (Kd.int .u32) w A0 l0.length l0) (hc0 : l0.length ≤ c0) (h : whetstoneref01_Of.f k l0 = some r) :
  Calls Try.prog 96 #[.slice A0 l0.length c0] w fun e w' => e = .returned (.int .u32 r) ∧ Drawn0 w w' := by
 have HR0 := Aside0.mk hr0
 have HC0 := Aside0.mk hc0
 clear hr0 hc0
 have H : (whetstoneref01_Of.l0 k l0 0 31) = some r := h
 clear h
 have H' := Aside0.mk H
 clear H
 go_enter Try.func96, Try.ntmps96
 go_wp2
 go_loopg [3, 4] k (fun kq v3 v4 w' => ∃ (x3_1 : Int) (x4_1 : Int), v3 = .int .u32 x3_1 ∧ v4 = .int .i64 x4_1 ∧ Aside0 (whetstoneref01_Of.l0 kq l0 x3_1 x4_1 = some r) ∧ Aside0 (kq ≤ k) ∧ Drawn0 w w')
 case atStart => exact ⟨(0), (31), (by first | rfl | (simp; done) | (simp [*]; done)), (by first | rfl | (simp; done) | (simp [*]; done)), H', ⟨Nat.le_refl _⟩, by repeat (first | exact Drawn0.refl _ | apply Drawn0.step)⟩
 case round =>
  clear H'
  obtain ⟨x3_1, x4_1, rfl, rfl, HA, HK1, ⟨m1, rfl⟩⟩ := hrel
  cases gk with
  | zero => exact absurd HA.out (by simp [whetstoneref01_Of.l0])
  | succ k1 =>
   have H := HA.out
   clear HA
   simp only [whetstoneref01_Of.l0] at H
   by_cases c2 : x4_1 ≥ 0
   ·rw [if_pos c2] at H
    have c2b0 : decide (0 ≤ x4_1) = true := decide_eq_true c2
    clear c2
    by_cases c3 : 0 ≤ x4_1
    ·rw [if_pos c3] at H
     have c3b0 : decide (0 ≤ x4_1) = true := decide_eq_true c3
     clear c3
     by_cases c4 : x4_1 < (l0.length : Int)
     ·rw [if_pos c4] at H
      have c4b0 : decide (x4_1 < (l0.length : Int)) = true := decide_eq_true c4
      clear c4
      have H' := Aside0.mk H
      clear H
      have p130 : 0 ≤ (x4_1 : Int) := of_decide_eq_true (by first | (with_reducible assumption) | assumption)
      have q130 : x4_1 < (l0.length : Int) := of_decide_eq_true (by first | (with_reducible assumption) | assumption)
      obtain ⟨ad130, e130, hx130_0⟩ := Kd.at_int HR0.out x4_1 p130 q130
      cases e130
      replace p130 := eq_true p130
      replace q130 := eq_true q130
      go_wp2
      go_roundg k1
      case measure => have := HK1.out; omega
      case rel => exact ⟨(((x3_1 * 2) + (rd l0 x4_1)) % 4294967296), (wrap64 (x4_1 - 1)), (by first | rfl | (simp; done) | (simp [*]; done)), (by first | rfl | (simp; done) | (simp [*]; done)), H', ⟨by have := HK1.out; omega⟩, by repeat (first | exact Drawn0.refl _ | apply Drawn0.step)⟩
     ·rw [if_neg c4] at H
      exact absurd H (by simp)
    ·rw [if_neg c3] at H
     exact absurd H (by simp)
   ·rw [if_neg c2] at H
    have c2b0 : decide (0 ≤ x4_1) = false := decide_eq_false c2
    clear c2
    obtain rfl := Option.some.inj H
    go_wp2
    go_ret
    exact ⟨by first | rfl | (simp; done) | (simp [*]; done), by repeat (first | exact Drawn0.refl _ | apply Drawn0.step)⟩
end Go.Proofs.Ytekenddkoahjgaa.Q
