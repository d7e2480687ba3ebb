import Derived.Test.YtononmcodecmaaaJQx0
namespace Go.Proofs.Ytononmcodecmaaa.Q
open Go.RowKit Go.Proofs.YtononmcodecmaaaW.PrintWords Go.Proofs.YtononmcodecmaaaW.PrintLast Go.Proofs.YtononmcodecmaaaW.PrintMore
attribute [local go_sem] max2_int min2_int max_two min_two max_three min_three max_four min_four   -- for this text's walks alone
attribute [local go_sem] imax_u32 imax_u8 isg_u32 isg_u8
set_option linter.unusedVariables false
set_option linter.unusedSimpArgs false
def cpu_taken.f (a0 : Int) (a1 : Int) (a2 : Int) : Option (Bool) := if a0 = 4 then (some (a1 == a2)) else (if a0 = 5 then (some (a1 != a2)) else (if a0 = 6 then (some (decide ((wrap32 (a1)) < (wrap32 (a2))))) else (if a0 = 7 then (some (decide ((wrap32 (a1)) ≥ (wrap32 (a2))))) else (if a0 = 8 then (some (decide (a1 < a2))) else (some (decide (a1 ≥ a2)))))))
set_option maxHeartbeats 8000000 in
set_option maxRecDepth 100000 in
theorem cpu_taken.calls (a0 : Int) (a1 : Int) (a2 : Int) (r : Bool) (w : World) (h : cpu_taken.f a0 a1 a2 = some r) :
  Calls Try.prog 38 #[.int .i64 a0, .int .u32 a1, .int .u32 a2] w fun e w' => e = .returned (.bool r) ∧ Drawn0 w w' := by
 have H : (if a0 = 4 then (some (a1 == a2)) else (if a0 = 5 then (some (a1 != a2)) else (if a0 = 6 then (some (decide ((wrap32 (a1)) < (wrap32 (a2))))) else (if a0 = 7 then (some (decide ((wrap32 (a1)) ≥ (wrap32 (a2))))) else (if a0 = 8 then (some (decide (a1 < a2))) else (some (decide (a1 ≥ a2)))))))) = some r := h
 clear h
 by_cases c4 : a0 = 4
 ·rw [if_pos c4] at H
  have c4b0 : (a0 == 4) = true := beq_iff_eq.mpr c4
  have c4b1 : (a0 != 4) = false := bne_eq_false_iff_eq.mpr c4
  clear c4
  obtain rfl := Option.some.inj H
  go_enter Try.func38, Try.ntmps38
  go_wp2
  go_ret
  exact ⟨by first | rfl | (simp; done) | (simp [*]; done), by repeat (first | exact Drawn0.refl _ | apply Drawn0.step)⟩
 ·rw [if_neg c4] at H
  have c4b0 : (a0 == 4) = false := beq_eq_false_iff_ne.mpr c4
  have c4b1 : (a0 != 4) = true := bne_iff_ne.mpr c4
  by_cases c5 : a0 = 5
  ·rw [if_pos c5] at H
   have c5b0 : (a0 == 5) = true := beq_iff_eq.mpr c5
   have c5b1 : (a0 != 5) = false := bne_eq_false_iff_eq.mpr c5
   clear c5
   obtain rfl := Option.some.inj H
   go_enter Try.func38, Try.ntmps38
   go_wp2
   go_ret
   exact ⟨by first | rfl | (simp; done) | (simp [*]; done), by repeat (first | exact Drawn0.refl _ | apply Drawn0.step)⟩
  ·rw [if_neg c5] at H
   have c5b0 : (a0 == 5) = false := beq_eq_false_iff_ne.mpr c5
   have c5b1 : (a0 != 5) = true := bne_iff_ne.mpr c5
   by_cases c6 : a0 = 6
   ·rw [if_pos c6] at H
    have c6b0 : (a0 == 6) = true := beq_iff_eq.mpr c6
    have c6b1 : (a0 != 6) = false := bne_eq_false_iff_eq.mpr c6
    clear c6
    obtain rfl := Option.some.inj H
    go_enter Try.func38, Try.ntmps38
    go_wp2
    go_ret
    exact ⟨by first | rfl | (simp; done) | (simp [*]; done), by repeat (first | exact Drawn0.refl _ | apply Drawn0.step)⟩
   ·rw [if_neg c6] at H
    have c6b0 : (a0 == 6) = false := beq_eq_false_iff_ne.mpr c6
    have c6b1 : (a0 != 6) = true := bne_iff_ne.mpr c6
    by_cases c7 : a0 = 7
    ·rw [if_pos c7] at H
     have c7b0 : (a0 == 7) = true := beq_iff_eq.mpr c7
     have c7b1 : (a0 != 7) = false := bne_eq_false_iff_eq.mpr c7
     clear c7
     obtain rfl := Option.some.inj H
     go_enter Try.func38, Try.ntmps38
     go_wp2
     go_ret
     exact ⟨by first | rfl | (simp; done) | (simp [*]; done), by repeat (first | exact Drawn0.refl _ | apply Drawn0.step)⟩
    ·rw [if_neg c7] at H
     have c7b0 : (a0 == 7) = false := beq_eq_false_iff_ne.mpr c7
     have c7b1 : (a0 != 7) = true := bne_iff_ne.mpr c7
     by_cases c8 : a0 = 8
     ·rw [if_pos c8] at H
      have c8b0 : (a0 == 8) = true := beq_iff_eq.mpr c8
      have c8b1 : (a0 != 8) = false := bne_eq_false_iff_eq.mpr c8
      clear c8
      obtain rfl := Option.some.inj H
      go_enter Try.func38, Try.ntmps38
      go_wp2
      go_ret
      exact ⟨by first | rfl | (simp; done) | (simp [*]; done), by repeat (first | exact Drawn0.refl _ | apply Drawn0.step)⟩
     ·rw [if_neg c8] at H
      have c8b0 : (a0 == 8) = false := beq_eq_false_iff_ne.mpr c8
      have c8b1 : (a0 != 8) = true := bne_iff_ne.mpr c8
      obtain rfl := Option.some.inj H
      go_enter Try.func38, Try.ntmps38
      go_wp2
      go_ret
      exact ⟨by first | rfl | (simp; done) | (simp [*]; done), by repeat (first | exact Drawn0.refl _ | apply Drawn0.step)⟩
def cpu_taken.Pure : Prop := ∀ (a0 : Int) (a1 : Int) (a2 : Int), (Lit.int .i64 a0).wf = true → (Lit.int .u32 a1).wf = true → (Lit.int .u32 a2).wf = true → cpu_taken.f a0 a1 a2 = some true
theorem cpu_taken.walk (P : cpu_taken.Pure) (a0 : Int) (a1 : Int) (a2 : Int) (w : World) (w0 : (Lit.int .i64 a0).wf = true) (w1 : (Lit.int .u32 a1).wf = true) (w2 : (Lit.int .u32 a2).wf = true) :
  Calls Try.prog 38 #[.int .i64 a0, .int .u32 a1, .int .u32 a2] w fun e w' => e = .returned (.bool true) ∧ Below w.heap.size w w' := by
 have h := P a0 a1 a2 w0 w1 w2
 refine (cpu_taken.calls a0 a1 a2 true w h).mono ?_
 rintro e w' ⟨rfl, hd⟩
 exact ⟨rfl, hd.below⟩
end Go.Proofs.Ytononmcodecmaaa.Q
