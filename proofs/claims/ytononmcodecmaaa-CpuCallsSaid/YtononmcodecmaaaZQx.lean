import Derived.Test.YtononmcodecmaaaZQx0
import Derived.Test.YtononmcodecmaaaZQx1
import Derived.Test.YtononmcodecmaaaZQx2
import Derived.Test.YtononmcodecmaaaZQx3
import Derived.Test.YtononmcodecmaaaZQx4
import Derived.Test.YtononmcodecmaaaZQx5
import Derived.Test.YtononmcodecmaaaZQx6
import Derived.Test.YtononmcodecmaaaZQx7
import Derived.Test.YtononmcodecmaaaZQx8
import Derived.Test.YtononmcodecmaaaZQx9
import Derived.Test.YtononmcodecmaaaZQx10
import Derived.Test.YtononmcodecmaaaZQx11
import Derived.Test.YtononmcodecmaaaZQx12
import Derived.Test.YtononmcodecmaaaZQx13
import Derived.Test.YtononmcodecmaaaZQx14
import Derived.Test.YtononmcodecmaaaZQx15
import Derived.Test.YtononmcodecmaaaZQx16
import Derived.Test.YtononmcodecmaaaZQx17
import Derived.Test.YtononmcodecmaaaZQx18
import Derived.Test.YtononmcodecmaaaZQx19
import Derived.Test.YtononmcodecmaaaZQx20
import Derived.Test.YtononmcodecmaaaZQx21
import Derived.Test.YtononmcodecmaaaZQx22
import Derived.Test.YtononmcodecmaaaZQx23
import Derived.Test.YtononmcodecmaaaZQx24
-- Written by this session's own driver (wip/tools/ownprint.py) over the kit's print: walks of the translated Go, each function once.
namespace Go.Proofs.Ytononmcodecmaaa.Q
open Go.RowKit Go.Proofs.YtononmcodecmaaaW.PrintWords Go.Proofs.YtononmcodecmaaaW.PrintLast Go.Proofs.YtononmcodecmaaaW.PrintMore
attribute [local go_sem] max2_int min2_int max_two min_two max_three min_three max_four min_four   -- for this text's walks alone
set_option linter.unusedVariables false
set_option linter.unusedSimpArgs false

end Go.Proofs.Ytononmcodecmaaa.Q
