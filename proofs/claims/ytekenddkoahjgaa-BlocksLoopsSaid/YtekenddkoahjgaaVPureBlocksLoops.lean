import Derived.Test.YtekenddkoahjgaaVQx40
import Derived.WalkKit
import Derived.Outline
/- Layer 8: what the law PureBlocksLoops answers. -/
namespace Go.Proofs.Ytekenddkoahjgaa.Q
open Go.RowKit Go.Proofs.YtekenddkoahjgaaW.PrintWords Go.Proofs.YtekenddkoahjgaaW.PrintLast Go.Proofs.YtekenddkoahjgaaW.PrintMore
set_option linter.unusedVariables false
set_option linter.unusedSimpArgs false
theorem law_BlocksLoops : whetstonelaw08_BlocksLoops.Pure := by
 intro a0
 refine ⟨300, ?_⟩
 cases a0 with
 | false => decide +kernel
 | true => decide +kernel
end Go.Proofs.Ytekenddkoahjgaa.Q
namespace Go.Proofs.Ytekenddkoahjgaa.Pure
open Go.RowKit Go.Proofs.Ytekenddkoahjgaa.Q
theorem BlocksLoops : whetstonelaw08_BlocksLoops.Pure := law_BlocksLoops
end Go.Proofs.Ytekenddkoahjgaa.Pure
