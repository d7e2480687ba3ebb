/- Layer 2, plain: PureInstSteps -/
import Derived.Test.YtoabchfdbjhjcaaQx42
import Derived.Test.YtoabchfdbjhjcaaTC
namespace Go.Proofs.Ytoabchfdbjhjcaa.Q
open Go.RowKit Go.Proofs.YtoabchfdbjhjcaaW.PrintWords Go.Proofs.YtoabchfdbjhjcaaW.PrintLast Go.Proofs.YtoabchfdbjhjcaaW.PrintMore
set_option linter.unusedVariables false
set_option linter.unusedSimpArgs false
theorem law_InstSteps : whetstonelaw02_InstSteps.Pure := by
  intro a m ha hm
  refine ⟨202, ?_⟩
  unfold whetstonelaw02_InstSteps.f
  have hb : Go.bits .and .i64 m 1 = m % 2 := and_i64 m (of_i64 hm) 1 (by decide)
  rw [Form_eq, obs, Right_eq _ _ _ _ _ 202 (by decide), obs, hb]
  simp only [whetstonelaw02_InstSteps.j0, whetstonelaw02_InstSteps.j1, fixed_ok 200 (by decide), fixed_ok 201 (by decide), obs, Right_eq _ _ _ _ _ 200 (by decide), Right_eq _ _ _ _ _ 201 (by decide)]
  rcases frm_cases a with ⟨h1, h2⟩ | ⟨h1, h2⟩
  · have hr : rightv a 0 0 0 m = false := by unfold rightv; rw [h2]; rfl
    rw [h2, hr]; rfl
  · rw [right_zero a h1]
    have hr : rightv a 0 0 0 m = numb (frm a) m := by
      rcases h2 with h2 | h2 | h2 | h2 | h2 | h2 | h2 | h2 <;> (unfold rightv; rw [h2]; generalize numb _ m = b; cases b <;> decide)
    rw [hr]
    rcases h2 with h2 | h2 | h2 | h2 | h2 | h2 | h2 | h2 <;> rw [h2] <;> unfold numb
    all_goals simp
    all_goals first
      | (by_cases h0 : m = 0 <;> simp [h0]; done)
      | (intros; (repeat' split) <;> first | rfl | (exfalso; omega))
end Go.Proofs.Ytoabchfdbjhjcaa.Q
namespace Go.Proofs.Ytoabchfdbjhjcaa.Pure
open Go.RowKit Go.Proofs.Ytoabchfdbjhjcaa.Q
theorem InstSteps : whetstonelaw02_InstSteps.Pure := law_InstSteps
end Go.Proofs.Ytoabchfdbjhjcaa.Pure
