-- Written by this session's own driver (wip/tools/ownprint.py) over the kit's print: walks of the translated Go, each function once.
import Derived.Test.YtoabchfdbjhjcaaQx0
import Derived.Test.YtoabchfdbjhjcaaQx2
namespace Go.Proofs.Ytoabchfdbjhjcaa.Q
open Go.RowKit Go.Proofs.YtoabchfdbjhjcaaW.PrintWords Go.Proofs.YtoabchfdbjhjcaaW.PrintLast Go.Proofs.YtoabchfdbjhjcaaW.PrintMore
attribute [local go_sem] max2_int min2_int max_two min_two max_three min_three max_four min_four   -- for this text's walks alone
attribute [local go_sem] imax_u32 imax_u8 isg_u32 isg_u8
set_option linter.unusedVariables false
set_option linter.unusedSimpArgs false

/-! ### inst_Form: function 39 -/
def inst_Form.f (a0 : Int) : Option Int := some (if 0 ≤ a0 ∧ a0 < 47 then (kGet a0.toNat).1 else 0)
set_option maxHeartbeats 800000 in
set_option maxRecDepth 100000 in
theorem inst_Form.calls (a0 : Int) (r : Int) (w : World) (h : inst_Form.f a0 = some r) :
    Calls Try.prog 39 #[.int .i64 a0] w fun e w' => e = .returned (.int .u8 r) ∧ Below w.heap.size w w' := by
  have H := Option.some.inj h
  clear h
  by_cases h0 : 0 ≤ a0 ∧ a0 < 47
  · rw [if_pos h0] at H
    obtain ⟨h1, h2⟩ := h0
    obtain ⟨n, rfl⟩ := Int.eq_ofNat_of_zero_le h1
    rw [Int.toNat_natCast] at H
    have hi0 := kinds_index n (by omega)
    generalize kGet n = q at *
    obtain ⟨a, b, c, d⟩ := q
    obtain rfl : a = r := H
    have hi : ∀ w : World, (Instr.index 108 (.agg kCells) (.int .i64 (n : Int))).run Try.prog w = .ok (.agg #[.int .u8 a, .int .u32 b, .int .u32 c, .int .u32 d]) w := hi0
    clear hi0
    have hf := fun w => row_field0 a b c d w
    go_enter Try.func39, Try.ntmps39
    go_wp2_with (go_at_call 81; refine (kinds_calls _).mono ?_; rintro e w1 ⟨rfl, hb⟩)
    go_ret
    exact ⟨rfl, hb⟩
  · rw [if_neg h0] at H
    subst H
    by_cases h1 : a0 < 0
    · go_enter Try.func39, Try.ntmps39
      go_wp2_with fail
      go_ret
      exact ⟨rfl, Below.refl _ _⟩
    · have h2 : 47 ≤ a0 := by omega
      go_enter Try.func39, Try.ntmps39
      go_wp2_with fail
      go_ret
      exact ⟨rfl, Below.refl _ _⟩

end Go.Proofs.Ytoabchfdbjhjcaa.Q
