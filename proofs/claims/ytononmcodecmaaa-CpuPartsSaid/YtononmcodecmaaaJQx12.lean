import Derived.Test.YtononmcodecmaaaJQx0
namespace Go.Proofs.Ytononmcodecmaaa.Q
open Go.RowKit Go.Proofs.YtononmcodecmaaaW.PrintWords Go.Proofs.YtononmcodecmaaaW.PrintLast Go.Proofs.YtononmcodecmaaaW.PrintMore
attribute [local go_sem] max2_int min2_int max_two min_two max_three min_three max_four min_four   -- for this text's walks alone
attribute [local go_sem] imax_u32 imax_u8 isg_u32 isg_u8
set_option linter.unusedVariables false
set_option linter.unusedSimpArgs false
def word_high.f (a0 : Int) (a1 : Int) (a2 : Int) : Option (Int) := if a0 = 40 then (some (((IntKind.u64.wrap ((IntKind.u64.wrap (a1)) * (IntKind.u64.wrap (a2)))) / 4294967296) % 4294967296)) else (if a0 = 38 then (some (((wrap64 ((wrap64 (wrap32 (a1))) * (wrap64 (wrap32 (a2))))) / 4294967296) % 4294967296)) else (if a0 = 39 then (some (((wrap64 ((wrap64 (wrap32 (a1))) * (wrap64 (a2)))) / 4294967296) % 4294967296)) else (some (((wrap64 ((wrap64 (a1)) * (wrap64 (a2)))) / 4294967296) % 4294967296))))
set_option maxHeartbeats 8000000 in
set_option maxRecDepth 100000 in
theorem word_high.calls (a0 : Int) (a1 : Int) (a2 : Int) (r : Int) (w : World) (h : word_high.f a0 a1 a2 = some r) :
  Calls Try.prog 77 #[.int .i64 a0, .int .u32 a1, .int .u32 a2] w fun e w' => e = .returned (.int .u32 r) ∧ Drawn0 w w' := by
 have H : (if a0 = 40 then (some (((IntKind.u64.wrap ((IntKind.u64.wrap (a1)) * (IntKind.u64.wrap (a2)))) / 4294967296) % 4294967296)) else (if a0 = 38 then (some (((wrap64 ((wrap64 (wrap32 (a1))) * (wrap64 (wrap32 (a2))))) / 4294967296) % 4294967296)) else (if a0 = 39 then (some (((wrap64 ((wrap64 (wrap32 (a1))) * (wrap64 (a2)))) / 4294967296) % 4294967296)) else (some (((wrap64 ((wrap64 (a1)) * (wrap64 (a2)))) / 4294967296) % 4294967296))))) = some r := h
 clear h
 by_cases c4 : a0 = 40
 ·rw [if_pos c4] at H
  have c4b0 : (a0 == 40) = true := beq_iff_eq.mpr c4
  have c4b1 : (a0 != 40) = false := bne_eq_false_iff_eq.mpr c4
  clear c4
  obtain rfl := Option.some.inj H
  go_enter Try.func77, Try.ntmps77
  go_wp2
  go_ret
  exact ⟨by first | rfl | (simp; done) | (simp [*]; done), by repeat (first | exact Drawn0.refl _ | apply Drawn0.step)⟩
 ·rw [if_neg c4] at H
  have c4b0 : (a0 == 40) = false := beq_eq_false_iff_ne.mpr c4
  have c4b1 : (a0 != 40) = true := bne_iff_ne.mpr c4
  by_cases c5 : a0 = 38
  ·rw [if_pos c5] at H
   have c5b0 : (a0 == 38) = true := beq_iff_eq.mpr c5
   have c5b1 : (a0 != 38) = false := bne_eq_false_iff_eq.mpr c5
   clear c5
   obtain rfl := Option.some.inj H
   go_enter Try.func77, Try.ntmps77
   go_wp2
   go_ret
   exact ⟨by first | rfl | (simp; done) | (simp [*]; done), by repeat (first | exact Drawn0.refl _ | apply Drawn0.step)⟩
  ·rw [if_neg c5] at H
   have c5b0 : (a0 == 38) = false := beq_eq_false_iff_ne.mpr c5
   have c5b1 : (a0 != 38) = true := bne_iff_ne.mpr c5
   by_cases c6 : a0 = 39
   ·rw [if_pos c6] at H
    have c6b0 : (a0 == 39) = true := beq_iff_eq.mpr c6
    have c6b1 : (a0 != 39) = false := bne_eq_false_iff_eq.mpr c6
    clear c6
    obtain rfl := Option.some.inj H
    go_enter Try.func77, Try.ntmps77
    go_wp2
    go_ret
    exact ⟨by first | rfl | (simp; done) | (simp [*]; done), by repeat (first | exact Drawn0.refl _ | apply Drawn0.step)⟩
   ·rw [if_neg c6] at H
    have c6b0 : (a0 == 39) = false := beq_eq_false_iff_ne.mpr c6
    have c6b1 : (a0 != 39) = true := bne_iff_ne.mpr c6
    obtain rfl := Option.some.inj H
    go_enter Try.func77, Try.ntmps77
    go_wp2
    go_ret
    exact ⟨by first | rfl | (simp; done) | (simp [*]; done), by repeat (first | exact Drawn0.refl _ | apply Drawn0.step)⟩
end Go.Proofs.Ytononmcodecmaaa.Q
