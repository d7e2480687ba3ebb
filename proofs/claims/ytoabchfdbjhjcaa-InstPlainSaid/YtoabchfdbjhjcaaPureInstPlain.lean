/- Layer 2, plain: PureInstPlain -/
import Derived.Test.YtoabchfdbjhjcaaQx47
import Derived.Test.YtoabchfdbjhjcaaTC
namespace Go.Proofs.Ytoabchfdbjhjcaa.Q
open Go.RowKit Go.Proofs.YtoabchfdbjhjcaaW.PrintWords Go.Proofs.YtoabchfdbjhjcaaW.PrintLast Go.Proofs.YtoabchfdbjhjcaaW.PrintMore
set_option linter.unusedVariables false
set_option linter.unusedSimpArgs false
theorem plain_all : ∀ n : Fin 47, whetstonelaw02_InstPlain.f 200 (n.val : Int) = some true := by decide +kernel
theorem law_InstPlain : whetstonelaw02_InstPlain.Pure := by
  intro a ha
  refine ⟨200, ?_⟩
  by_cases h : 0 ≤ a ∧ a < 47
  · obtain ⟨n, rfl⟩ := Int.eq_ofNat_of_zero_le h.1
    exact plain_all ⟨n, by omega⟩
  · unfold whetstonelaw02_InstPlain.f
    rw [Plain_none a (by omega), fixed_200]
    rfl
end Go.Proofs.Ytoabchfdbjhjcaa.Q
namespace Go.Proofs.Ytoabchfdbjhjcaa.Pure
open Go.RowKit Go.Proofs.Ytoabchfdbjhjcaa.Q
theorem InstPlain : whetstonelaw02_InstPlain.Pure := law_InstPlain
end Go.Proofs.Ytoabchfdbjhjcaa.Pure
