/- Layer 2, plain: PureInstForms -/
import Derived.Test.YtoabchfdbjhjcaaQx46
import Derived.Test.YtoabchfdbjhjcaaTC
namespace Go.Proofs.Ytoabchfdbjhjcaa.Q
open Go.RowKit Go.Proofs.YtoabchfdbjhjcaaW.PrintWords Go.Proofs.YtoabchfdbjhjcaaW.PrintLast Go.Proofs.YtoabchfdbjhjcaaW.PrintMore
set_option linter.unusedVariables false
set_option linter.unusedSimpArgs false
theorem forms_same : ∀ n : Fin 47, whetstonelaw02_InstForms.f 200 (n.val : Int) = some true := by decide +kernel
theorem law_InstForms : whetstonelaw02_InstForms.Pure := by
  intro a ha
  refine ⟨200, ?_⟩
  by_cases h : 0 ≤ a ∧ a < 47
  · obtain ⟨n, rfl⟩ := Int.eq_ofNat_of_zero_le h.1
    exact forms_same ⟨n, by omega⟩
  · unfold whetstonelaw02_InstForms.f
    rw [Plain_none a (by omega), rPlain_none a (by omega), fixed_200, Form_out a h, rForm_out a h]
    rfl
end Go.Proofs.Ytoabchfdbjhjcaa.Q
namespace Go.Proofs.Ytoabchfdbjhjcaa.Pure
open Go.RowKit Go.Proofs.Ytoabchfdbjhjcaa.Q
theorem InstForms : whetstonelaw02_InstForms.Pure := law_InstForms
end Go.Proofs.Ytoabchfdbjhjcaa.Pure
