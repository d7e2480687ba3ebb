-- Written by this session's own driver (wip/tools/ownprint.py) over the kit's print: walks of the translated Go, each function once.
import Derived.Test.YtoabchfdbjhjcaaQx0
namespace Go.Proofs.Ytoabchfdbjhjcaa.Q
open Go.RowKit Go.Proofs.YtoabchfdbjhjcaaW.PrintWords Go.Proofs.YtoabchfdbjhjcaaW.PrintLast Go.Proofs.YtoabchfdbjhjcaaW.PrintMore
attribute [local go_sem] max2_int min2_int max_two min_two max_three min_three max_four min_four   -- for this text's walks alone
attribute [local go_sem] imax_u32 imax_u8 isg_u32 isg_u8
set_option linter.unusedVariables false
set_option linter.unusedSimpArgs false

/-! ### word_mask: function 127 -/
def word_mask.l0 : Nat → Int → Int → Int → Option (Int)
  | 0, _, _, _ => none
  | k + 1, x3, x4, x5 => if x5 < x4 then (word_mask.l0 k (Go.bits .or .u32 ((x3 * 2) % 4294967296) 1) x4 (wrap64 (x5 + 1))) else (some x3)
def word_mask.f (k : Nat) (a0 : Int) : Option (Int) := word_mask.l0 k 0 a0 0
theorem word_mask.mono_l : ∀ k, (∀ y0 y1 y2, LeO (word_mask.l0 k y0 y1 y2) (word_mask.l0 (k + 1) y0 y1 y2))
  | 0 => fun _ _ _ r h => by simp [word_mask.l0] at h
  | k + 1 => by
    have ih0 := word_mask.mono_l k
    · intro y0 y1 y2
      unfold word_mask.l0
      repeat' first
      | (with_reducible exact ih0 _ _ _)
      | (with_reducible exact LeO.refl _)
      | (with_reducible exact LeO.none _)
      | (with_reducible refine LeO.ite ?_ ?_)
      | (with_reducible refine LeO.bind ?_ (fun _ => ?_))
      | exact ih0 _ _ _
      | exact LeO.none _
      | refine LeO.ite ?_ ?_
      | refine LeO.bind ?_ (fun _ => ?_)
theorem word_mask.mono : ∀ a0 k, LeO (word_mask.f k a0) (word_mask.f (k + 1) a0) := by
  intro a0 k
  have ih0 := word_mask.mono_l k
  unfold word_mask.f
  repeat' first
      | (with_reducible exact ih0 _ _ _)
      | (with_reducible exact LeO.refl _)
      | (with_reducible exact LeO.none _)
      | (with_reducible refine LeO.ite ?_ ?_)
      | (with_reducible refine LeO.bind ?_ (fun _ => ?_))
      | exact ih0 _ _ _
      | exact LeO.none _
      | refine LeO.ite ?_ ?_
      | refine LeO.bind ?_ (fun _ => ?_)
set_option maxHeartbeats 8000000 in
set_option maxRecDepth 100000 in
theorem word_mask.calls (k : Nat) (a0 : Int) (r : Int) (w : World) (h : word_mask.f k a0 = some r) :
    Calls Try.prog 127 #[.int .i64 a0] w fun e w' => e = .returned (.int .u32 r) ∧ Drawn0 w w' := by
  have H : (word_mask.l0 k 0 a0 0) = some r := h
  clear h
  have H' := Aside0.mk H
  clear H
  go_enter Try.func127, Try.ntmps127
  go_wp2
  go_loopg [3, 5] k (fun kq v3 v5 w' => ∃ (x3_1 : Int) (x5_1 : Int), v3 = .int .u32 x3_1 ∧ v5 = .int .i64 x5_1 ∧ Aside0 (word_mask.l0 kq x3_1 a0 x5_1 = some r) ∧ Aside0 (kq ≤ k) ∧ Drawn0 w w')
  case atStart => exact ⟨(0), (0), (by first | rfl | (simp; done) | (simp [*]; done)), (by first | rfl | (simp; done) | (simp [*]; done)), H', ⟨Nat.le_refl _⟩, by repeat (first | exact Drawn0.refl _ | apply Drawn0.step)⟩
  case round =>
    clear H'
    try clear c1
    obtain ⟨x3_1, x5_1, rfl, rfl, HA, HK1, ⟨m1, rfl⟩⟩ := hrel
    cases gk with
    | zero => exact absurd HA.out (by simp [word_mask.l0])
    | succ k1 =>
      have H := HA.out
      clear HA
      simp only [word_mask.l0] at H
      by_cases c2 : x5_1 < a0
      · rw [if_pos c2] at H
        have c2b0 : decide (x5_1 < a0) = true := decide_eq_true c2
        clear c2
        have H' := Aside0.mk H
        clear H
        go_wp2
        go_roundg k1
        case measure => have := HK1.out; omega
        case rel => exact ⟨(Go.bits .or .u32 ((x3_1 * 2) % 4294967296) 1), (wrap64 (x5_1 + 1)), (by first | rfl | (simp; done) | (simp [*]; done)), (by first | rfl | (simp; done) | (simp [*]; done)), H', ⟨by have := HK1.out; omega⟩, by repeat (first | exact Drawn0.refl _ | apply Drawn0.step)⟩
      · rw [if_neg c2] at H
        have c2b0 : decide (x5_1 < a0) = false := decide_eq_false c2
        clear c2
        obtain rfl := Option.some.inj H
        go_wp2
        go_ret
        exact ⟨by first | rfl | (simp; done) | (simp [*]; done), by repeat (first | exact Drawn0.refl _ | apply Drawn0.step)⟩

end Go.Proofs.Ytoabchfdbjhjcaa.Q
