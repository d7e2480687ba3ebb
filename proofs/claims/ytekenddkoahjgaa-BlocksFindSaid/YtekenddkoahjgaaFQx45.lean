import Derived.Test.YtekenddkoahjgaaFZc
import Derived.Test.YtekenddkoahjgaaFQx3
import Derived.Test.YtekenddkoahjgaaFQx6
import Derived.Test.YtekenddkoahjgaaFQx11
import Derived.Test.YtekenddkoahjgaaFQx40
import Derived.Test.YtekenddkoahjgaaFQx43
namespace Go.Proofs.Ytekenddkoahjgaa.Q
open Go.RowKit Go.Proofs.YtekenddkoahjgaaW.PrintWords Go.Proofs.YtekenddkoahjgaaW.PrintLast Go.Proofs.YtekenddkoahjgaaW.PrintMore
attribute [local go_sem] max2_int min2_int max_two min_two max_three min_three max_four min_four
attribute [local go_sem] imax_u32 imax_u8 isg_u32 isg_u8
set_option linter.unusedVariables false
set_option linter.unusedSimpArgs false
def okN (b : Int) (l : List Int) (L : List (S40)) : Prop := (0 ≤ b ∧ b < 4294967296) ∧ l.length ≤ 200 ∧ (∀ x ∈ l, 0 ≤ x ∧ x < 4294967296) ∧ L.length ≤ 1000 ∧ ∀ y ∈ L, (0 ≤ y.f0 ∧ y.f0 < 4294967296) ∧ 1 ≤ y.f1 ∧ y.f1 ≤ 1000
instance (b : Int) (l : List Int) (L : List (S40)) : Decidable (okN b l L) := by unfold okN; infer_instance
end Go.Proofs.Ytekenddkoahjgaa.Q
