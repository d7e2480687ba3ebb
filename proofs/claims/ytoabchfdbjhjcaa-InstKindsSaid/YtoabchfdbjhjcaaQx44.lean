-- Written by this session's own driver (wip/tools/ownprint.py) over the kit's print: walks of the translated Go, each function once.
import Derived.Test.YtoabchfdbjhjcaaQx0
namespace Go.Proofs.Ytoabchfdbjhjcaa.Q
open Go.RowKit Go.Proofs.YtoabchfdbjhjcaaW.PrintWords Go.Proofs.YtoabchfdbjhjcaaW.PrintLast Go.Proofs.YtoabchfdbjhjcaaW.PrintMore
attribute [local go_sem] max2_int min2_int max_two min_two max_three min_three max_four min_four   -- for this text's walks alone
attribute [local go_sem] imax_u32 imax_u8 isg_u32 isg_u8
set_option linter.unusedVariables false
set_option linter.unusedSimpArgs false

/-! ### inst_Plain: function 40 -/
def inst_Plain.f (a0 : Int) : Option (Int × Bool) := if a0 = 18 then (some (27, true)) else (if a0 = 19 then (some (30, true)) else (if a0 = 20 then (some (31, true)) else (if a0 = 21 then (some (32, true)) else (if a0 = 22 then (some (35, true)) else (if a0 = 23 then (some (36, true)) else (if a0 = 24 then (some (29, true)) else (if a0 = 25 then (some (33, true)) else (if a0 = 26 then (some (34, true)) else (some (0, false))))))))))
set_option maxHeartbeats 8000000 in
set_option maxRecDepth 100000 in
theorem inst_Plain.calls (a0 : Int) (r1 : Int) (r2 : Bool) (w : World) (h : inst_Plain.f a0 = some (r1, r2)) :
    Calls Try.prog 40 #[.int .i64 a0] w fun e w' => e = .returned (.tuple #[.int .i64 r1, .bool r2]) ∧ Drawn0 w w' := by
  have H : (if a0 = 18 then (some (27, true)) else (if a0 = 19 then (some (30, true)) else (if a0 = 20 then (some (31, true)) else (if a0 = 21 then (some (32, true)) else (if a0 = 22 then (some (35, true)) else (if a0 = 23 then (some (36, true)) else (if a0 = 24 then (some (29, true)) else (if a0 = 25 then (some (33, true)) else (if a0 = 26 then (some (34, true)) else (some (0, false))))))))))) = some (r1, r2) := h
  clear h
  by_cases c2 : a0 = 18
  · rw [if_pos c2] at H
    have c2b0 : (a0 == 18) = true := beq_iff_eq.mpr c2
    have c2b1 : (a0 != 18) = false := bne_eq_false_iff_eq.mpr c2
    clear c2
    simp only [Option.some.injEq, Prod.mk.injEq] at H
    obtain ⟨rfl, rfl⟩ := H
    go_enter Try.func40, Try.ntmps40
    go_wp2
    go_ret2
    exact ⟨by first | rfl | (simp; done) | (simp [*]; done), by repeat (first | exact Drawn0.refl _ | apply Drawn0.step)⟩
  · rw [if_neg c2] at H
    have c2b0 : (a0 == 18) = false := beq_eq_false_iff_ne.mpr c2
    have c2b1 : (a0 != 18) = true := bne_iff_ne.mpr c2
    by_cases c3 : a0 = 19
    · rw [if_pos c3] at H
      have c3b0 : (a0 == 19) = true := beq_iff_eq.mpr c3
      have c3b1 : (a0 != 19) = false := bne_eq_false_iff_eq.mpr c3
      clear c3
      simp only [Option.some.injEq, Prod.mk.injEq] at H
      obtain ⟨rfl, rfl⟩ := H
      go_enter Try.func40, Try.ntmps40
      go_wp2
      go_ret2
      exact ⟨by first | rfl | (simp; done) | (simp [*]; done), by repeat (first | exact Drawn0.refl _ | apply Drawn0.step)⟩
    · rw [if_neg c3] at H
      have c3b0 : (a0 == 19) = false := beq_eq_false_iff_ne.mpr c3
      have c3b1 : (a0 != 19) = true := bne_iff_ne.mpr c3
      by_cases c4 : a0 = 20
      · rw [if_pos c4] at H
        have c4b0 : (a0 == 20) = true := beq_iff_eq.mpr c4
        have c4b1 : (a0 != 20) = false := bne_eq_false_iff_eq.mpr c4
        clear c4
        simp only [Option.some.injEq, Prod.mk.injEq] at H
        obtain ⟨rfl, rfl⟩ := H
        go_enter Try.func40, Try.ntmps40
        go_wp2
        go_ret2
        exact ⟨by first | rfl | (simp; done) | (simp [*]; done), by repeat (first | exact Drawn0.refl _ | apply Drawn0.step)⟩
      · rw [if_neg c4] at H
        have c4b0 : (a0 == 20) = false := beq_eq_false_iff_ne.mpr c4
        have c4b1 : (a0 != 20) = true := bne_iff_ne.mpr c4
        by_cases c5 : a0 = 21
        · rw [if_pos c5] at H
          have c5b0 : (a0 == 21) = true := beq_iff_eq.mpr c5
          have c5b1 : (a0 != 21) = false := bne_eq_false_iff_eq.mpr c5
          clear c5
          simp only [Option.some.injEq, Prod.mk.injEq] at H
          obtain ⟨rfl, rfl⟩ := H
          go_enter Try.func40, Try.ntmps40
          go_wp2
          go_ret2
          exact ⟨by first | rfl | (simp; done) | (simp [*]; done), by repeat (first | exact Drawn0.refl _ | apply Drawn0.step)⟩
        · rw [if_neg c5] at H
          have c5b0 : (a0 == 21) = false := beq_eq_false_iff_ne.mpr c5
          have c5b1 : (a0 != 21) = true := bne_iff_ne.mpr c5
          by_cases c6 : a0 = 22
          · rw [if_pos c6] at H
            have c6b0 : (a0 == 22) = true := beq_iff_eq.mpr c6
            have c6b1 : (a0 != 22) = false := bne_eq_false_iff_eq.mpr c6
            clear c6
            simp only [Option.some.injEq, Prod.mk.injEq] at H
            obtain ⟨rfl, rfl⟩ := H
            go_enter Try.func40, Try.ntmps40
            go_wp2
            go_ret2
            exact ⟨by first | rfl | (simp; done) | (simp [*]; done), by repeat (first | exact Drawn0.refl _ | apply Drawn0.step)⟩
          · rw [if_neg c6] at H
            have c6b0 : (a0 == 22) = false := beq_eq_false_iff_ne.mpr c6
            have c6b1 : (a0 != 22) = true := bne_iff_ne.mpr c6
            by_cases c7 : a0 = 23
            · rw [if_pos c7] at H
              have c7b0 : (a0 == 23) = true := beq_iff_eq.mpr c7
              have c7b1 : (a0 != 23) = false := bne_eq_false_iff_eq.mpr c7
              clear c7
              simp only [Option.some.injEq, Prod.mk.injEq] at H
              obtain ⟨rfl, rfl⟩ := H
              go_enter Try.func40, Try.ntmps40
              go_wp2
              go_ret2
              exact ⟨by first | rfl | (simp; done) | (simp [*]; done), by repeat (first | exact Drawn0.refl _ | apply Drawn0.step)⟩
            · rw [if_neg c7] at H
              have c7b0 : (a0 == 23) = false := beq_eq_false_iff_ne.mpr c7
              have c7b1 : (a0 != 23) = true := bne_iff_ne.mpr c7
              by_cases c8 : a0 = 24
              · rw [if_pos c8] at H
                have c8b0 : (a0 == 24) = true := beq_iff_eq.mpr c8
                have c8b1 : (a0 != 24) = false := bne_eq_false_iff_eq.mpr c8
                clear c8
                simp only [Option.some.injEq, Prod.mk.injEq] at H
                obtain ⟨rfl, rfl⟩ := H
                go_enter Try.func40, Try.ntmps40
                go_wp2
                go_ret2
                exact ⟨by first | rfl | (simp; done) | (simp [*]; done), by repeat (first | exact Drawn0.refl _ | apply Drawn0.step)⟩
              · rw [if_neg c8] at H
                have c8b0 : (a0 == 24) = false := beq_eq_false_iff_ne.mpr c8
                have c8b1 : (a0 != 24) = true := bne_iff_ne.mpr c8
                by_cases c9 : a0 = 25
                · rw [if_pos c9] at H
                  have c9b0 : (a0 == 25) = true := beq_iff_eq.mpr c9
                  have c9b1 : (a0 != 25) = false := bne_eq_false_iff_eq.mpr c9
                  clear c9
                  simp only [Option.some.injEq, Prod.mk.injEq] at H
                  obtain ⟨rfl, rfl⟩ := H
                  go_enter Try.func40, Try.ntmps40
                  go_wp2
                  go_ret2
                  exact ⟨by first | rfl | (simp; done) | (simp [*]; done), by repeat (first | exact Drawn0.refl _ | apply Drawn0.step)⟩
                · rw [if_neg c9] at H
                  have c9b0 : (a0 == 25) = false := beq_eq_false_iff_ne.mpr c9
                  have c9b1 : (a0 != 25) = true := bne_iff_ne.mpr c9
                  by_cases c10 : a0 = 26
                  · rw [if_pos c10] at H
                    have c10b0 : (a0 == 26) = true := beq_iff_eq.mpr c10
                    have c10b1 : (a0 != 26) = false := bne_eq_false_iff_eq.mpr c10
                    clear c10
                    simp only [Option.some.injEq, Prod.mk.injEq] at H
                    obtain ⟨rfl, rfl⟩ := H
                    go_enter Try.func40, Try.ntmps40
                    go_wp2
                    go_ret2
                    exact ⟨by first | rfl | (simp; done) | (simp [*]; done), by repeat (first | exact Drawn0.refl _ | apply Drawn0.step)⟩
                  · rw [if_neg c10] at H
                    have c10b0 : (a0 == 26) = false := beq_eq_false_iff_ne.mpr c10
                    have c10b1 : (a0 != 26) = true := bne_iff_ne.mpr c10
                    simp only [Option.some.injEq, Prod.mk.injEq] at H
                    obtain ⟨rfl, rfl⟩ := H
                    go_enter Try.func40, Try.ntmps40
                    go_wp2
                    go_ret2
                    exact ⟨by first | rfl | (simp; done) | (simp [*]; done), by repeat (first | exact Drawn0.refl _ | apply Drawn0.step)⟩

end Go.Proofs.Ytoabchfdbjhjcaa.Q
