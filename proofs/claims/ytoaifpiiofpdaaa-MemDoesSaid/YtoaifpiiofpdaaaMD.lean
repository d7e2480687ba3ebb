import Derived.Test.YtoaifpiiofpdaaaMC
import Derived.WalkKit
import Derived.KernelRfl
import Derived.Below
import Derived.Outline
import Derived.LoopTactic
import Derived.Maps.Own
import Derived.Maps.OwnOps
import Derived.Maps.OwnSet
import Derived.Maps.Views
import Derived.Maps.AppendAt
import Derived.Laws.BitsLemmas
import Derived.Laws.BitsAllLaws
import Derived.Deep.LoopGhost
import Derived.Lib.Hide
import Derived.Deep.QuietTactic
import Derived.BigQuiet
import Derived.Deep.Draws
import Derived.RangeFuncBox
import Derived.OwnWalk
import Derived.Laws.OwnMore
import Derived.Laws.BytesArg
import Derived.Laws.MakeOwn
namespace Go.Proofs.Ytoaifpiiofpdaaa.Mm
open Go.RowKit Go.Maps Go.Proofs
set_option linter.unusedVariables false
set_option linter.unusedSimpArgs false
/-! ### Load, Store, Put, Bytes, Same of the reference -/
theorem rat_at (p n : Nat) (f : Nat → Nat) (l : List (Nat × Nat)) (a : Nat) (A : Int) (w : World) (hA : A = (a : Int)) (h : RefM w p n f l) (hn : n < 90000000) :
    Calls Try.prog 27 #[.pointer (some ⟨p, 0, none⟩), .int .u32 A] w fun e w' => e = .returned (.int .u8 (f a : Int)) ∧ w = w' := by
  subst hA
  exact rat_calls p n f l a w h hn
theorem rset_at (p n : Nat) (f : Nat → Nat) (l : List (Nat × Nat)) (a c : Nat) (A C : Int) (w : World) (hA : A = (a : Int)) (hC : C = (c : Int)) (h : RefM w p n f l) (hn : n < 90000000) (ha : a < 4294967296) (hc : c < 256) :
    Calls Try.prog 28 #[.pointer (some ⟨p, 0, none⟩), .int .u32 A, .int .u8 C] w fun e w' => e = .returned (.tuple #[]) ∧ RefM w' p (n + 1) (upd f a c) (rset l a c) ∧ w.grownBy w' (some p) := by
  subst hA hC
  exact rset_calls p n f l a c w h hn ha hc
/-- The highest i bytes of a number of k. -/
def top (f : Nat → Nat) (a k : Nat) : Nat → Nat
  | 0 => 0
  | i + 1 => top f a k i * 256 + f ((a + (k - 1 - i)) % 4294967296)
theorem top_lt (f : Nat → Nat) (a k i : Nat) (h : ∀ x, f x < 256) : top f a k i < 256 ^ i := by
  induction i with
  | zero => simp [top]
  | succ i ih =>
    have := h ((a + (k - 1 - i)) % 4294967296)
    have e : 256 ^ (i + 1) = 256 ^ i * 256 := Nat.pow_succ _ _
    show top f a k i * 256 + _ < _
    omega
theorem top_ld (f : Nat → Nat) (a k : Nat) (hk : k = 1 ∨ k = 2 ∨ k = 4) : top f a k k = ld f a k := by
  rcases hk with rfl | rfl | rfl
  · simp [top, ld]
  · simp [top, ld]; omega
  · simp [top, ld]; omega
theorem f_lt_of_rep {f : Nat → Nat} {l : List (Nat × Nat)} (h : Rep f l) (hl : ∀ x ∈ l, x.1 < 4294967296 ∧ x.2 < 256) : ∀ x, f x < 256 := by
  intro x
  by_cases h0 : f x = 0
  · omega
  · exact (hl (x, f x) ((h.2 x (f x)).2 ⟨rfl, h0⟩)).2
set_option maxHeartbeats 1600000 in
theorem rLoad_calls (p n : Nat) (f : Nat → Nat) (l : List (Nat × Nat)) (a k : Nat) (w : World) (h : RefM w p n f l) (hn : n < 90000000) (ha : a < 4294967296) (hk : k = 1 ∨ k = 2 ∨ k = 4) :
    Calls Try.prog 18 #[.pointer (some ⟨p, 0, none⟩), .int .u32 (a : Int), .int .i64 (k : Int)] w fun e w' => e = .returned (.tuple #[.int .u32 (ld f a k : Int), .int .i64 0]) ∧ w = w' := by
  rw [← top_ld f a k hk]
  have hf := f_lt_of_rep h.rep h.lt
  have HF := Lib.hid hf
  have HM := Lib.hid h
  clear hf h
  have hk4 : k ≤ 4 := by omega
  have hk1 : 1 ≤ k := by omega
  rcases hk with rfl | rfl | rfl
  · show Calls Try.prog 18 #[.pointer (some ⟨p, 0, none⟩), .int .u32 (a : Int), .int .i64 1] w _
    go_enter Try.func18, Try.ntmps18
    go_wp2
    go_loop [8, 9] (fun s8 s9 => ∃ i : Nat, i ≤ 1 ∧ s9 = .int .i64 (0 - (i : Int)) ∧ s8 = .int .u32 (top f a 1 i : Int)) (fun _ s9 => (intOf s9 + 1).toNat)
    case atStart => exact ⟨0, Nat.zero_le _, rfl, rfl⟩
    case round =>
      obtain ⟨i, hi, rfl, rfl⟩ := hrel
      have HT := Lib.hid (top_lt f a 1 i HF.out)
      have ht : top f a 1 i < 256 ^ 1 := Nat.lt_of_lt_of_le (top_lt f a 1 i HF.out) (Nat.pow_le_pow_right (by decide) hi)
      by_cases hlt : i < 1
      · have hfx := HF.out ((a + (0 - i)) % 4294967296)
        go_wp2_with (go_at_call 27; with_reducible refine (rat_at p n f l ((a + (0 - i)) % 4294967296) _ w (by omega) HM.out hn).mono ?_; rintro e w' ⟨rfl, rfl⟩)
        go_round
        case rel =>
          have h2 : top f a 1 (i + 1) < 256 ^ 1 := Nat.lt_of_lt_of_le (top_lt f a 1 (i + 1) HF.out) (Nat.pow_le_pow_right (by decide) hlt)
          have h3 : top f a 1 (i + 1) = top f a 1 i * 256 + f ((a + (0 - i)) % 4294967296) := rfl
          refine ⟨i + 1, hlt, by first | rfl | (congr 1; omega), ?_⟩
          rw [h3] at h2 ⊢
          rw [show (256 : Nat) ^ 1 = 256 by decide] at h2 ht
          obtain rfl : i = 0 := by omega
          simp only [Nat.sub_zero, Nat.add_zero] at *
          generalize f (a % 4294967296) = z at *
          generalize top f a 1 0 = x at *
          first | done | (congr 1; first | done | omega)
        case measure => simp [intOf]; omega
      · obtain rfl : i = 1 := by omega
        go_wp2
        go_ret2
        exact ⟨rfl, rfl⟩
  · show Calls Try.prog 18 #[.pointer (some ⟨p, 0, none⟩), .int .u32 (a : Int), .int .i64 2] w _
    go_enter Try.func18, Try.ntmps18
    go_wp2
    go_loop [8, 9] (fun s8 s9 => ∃ i : Nat, i ≤ 2 ∧ s9 = .int .i64 (1 - (i : Int)) ∧ s8 = .int .u32 (top f a 2 i : Int)) (fun _ s9 => (intOf s9 + 1).toNat)
    case atStart => exact ⟨0, Nat.zero_le _, rfl, rfl⟩
    case round =>
      obtain ⟨i, hi, rfl, rfl⟩ := hrel
      have HT := Lib.hid (top_lt f a 2 i HF.out)
      have ht : top f a 2 i < 256 ^ 2 := Nat.lt_of_lt_of_le (top_lt f a 2 i HF.out) (Nat.pow_le_pow_right (by decide) hi)
      by_cases hlt : i < 2
      · have hfx := HF.out ((a + (1 - i)) % 4294967296)
        go_wp2_with (go_at_call 27; with_reducible refine (rat_at p n f l ((a + (1 - i)) % 4294967296) _ w (by omega) HM.out hn).mono ?_; rintro e w' ⟨rfl, rfl⟩)
        go_round
        case rel =>
          have h2 : top f a 2 (i + 1) < 256 ^ 2 := Nat.lt_of_lt_of_le (top_lt f a 2 (i + 1) HF.out) (Nat.pow_le_pow_right (by decide) hlt)
          have h3 : top f a 2 (i + 1) = top f a 2 i * 256 + f ((a + (1 - i)) % 4294967296) := rfl
          refine ⟨i + 1, hlt, by first | rfl | (congr 1; omega), ?_⟩
          rw [h3] at h2 ⊢
          rw [show (256 : Nat) ^ 2 = 65536 by decide] at h2 ht
          skip
          skip
          generalize f ((a + (1 - i)) % 4294967296) = z at *
          generalize top f a 2 i = x at *
          first | done | (congr 1; first | done | omega)
        case measure => simp [intOf]; omega
      · obtain rfl : i = 2 := by omega
        go_wp2
        go_ret2
        exact ⟨rfl, rfl⟩
  · show Calls Try.prog 18 #[.pointer (some ⟨p, 0, none⟩), .int .u32 (a : Int), .int .i64 4] w _
    go_enter Try.func18, Try.ntmps18
    go_wp2
    go_loop [8, 9] (fun s8 s9 => ∃ i : Nat, i ≤ 4 ∧ s9 = .int .i64 (3 - (i : Int)) ∧ s8 = .int .u32 (top f a 4 i : Int)) (fun _ s9 => (intOf s9 + 1).toNat)
    case atStart => exact ⟨0, Nat.zero_le _, rfl, rfl⟩
    case round =>
      obtain ⟨i, hi, rfl, rfl⟩ := hrel
      have HT := Lib.hid (top_lt f a 4 i HF.out)
      have ht : top f a 4 i < 256 ^ 4 := Nat.lt_of_lt_of_le (top_lt f a 4 i HF.out) (Nat.pow_le_pow_right (by decide) hi)
      by_cases hlt : i < 4
      · have hfx := HF.out ((a + (3 - i)) % 4294967296)
        go_wp2_with (go_at_call 27; with_reducible refine (rat_at p n f l ((a + (3 - i)) % 4294967296) _ w (by omega) HM.out hn).mono ?_; rintro e w' ⟨rfl, rfl⟩)
        go_round
        case rel =>
          have h2 : top f a 4 (i + 1) < 256 ^ 4 := Nat.lt_of_lt_of_le (top_lt f a 4 (i + 1) HF.out) (Nat.pow_le_pow_right (by decide) hlt)
          have h3 : top f a 4 (i + 1) = top f a 4 i * 256 + f ((a + (3 - i)) % 4294967296) := rfl
          refine ⟨i + 1, hlt, by first | rfl | (congr 1; omega), ?_⟩
          rw [h3] at h2 ⊢
          rw [show (256 : Nat) ^ 4 = 4294967296 by decide] at h2 ht
          skip
          skip
          generalize f ((a + (3 - i)) % 4294967296) = z at *
          generalize top f a 4 i = x at *
          first | done | (congr 1; first | done | omega)
        case measure => simp [intOf]; omega
      · obtain rfl : i = 4 := by omega
        go_wp2
        go_ret2
        exact ⟨rfl, rfl⟩
end Go.Proofs.Ytoaifpiiofpdaaa.Mm
