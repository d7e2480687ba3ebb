import Derived.Test.YtononmcodecmaaaUQx0
import Derived.Test.YtononmcodecmaaaUQx1
import Derived.Test.YtononmcodecmaaaUQx2
import Derived.Test.YtononmcodecmaaaUQx3
import Derived.Test.YtononmcodecmaaaUQx4
import Derived.Test.YtononmcodecmaaaUQx5
import Derived.Test.YtononmcodecmaaaUQx6
import Derived.Test.YtononmcodecmaaaUQx7
import Derived.Test.YtononmcodecmaaaUQx8
import Derived.Test.YtononmcodecmaaaUQx9
import Derived.Test.YtononmcodecmaaaUQx10
import Derived.Test.YtononmcodecmaaaUQx11
import Derived.Test.YtononmcodecmaaaUQx12
import Derived.Test.YtononmcodecmaaaUQx13
import Derived.Test.YtononmcodecmaaaUQx14
import Derived.Test.YtononmcodecmaaaUQx15
import Derived.Test.YtononmcodecmaaaUQx16
import Derived.Test.YtononmcodecmaaaUQx17
import Derived.Test.YtononmcodecmaaaUQx18
import Derived.Test.YtononmcodecmaaaUQx19
import Derived.Test.YtononmcodecmaaaUQx20
import Derived.Test.YtononmcodecmaaaUQx21
import Derived.Test.YtononmcodecmaaaUQx22
import Derived.Test.YtononmcodecmaaaUQx23
import Derived.Test.YtononmcodecmaaaUQx24
namespace Go.Proofs.Ytononmcodecmaaa.Q
open Go.RowKit Go.Proofs.YtononmcodecmaaaW.PrintWords Go.Proofs.YtononmcodecmaaaW.PrintLast Go.Proofs.YtononmcodecmaaaW.PrintMore
attribute [local go_sem] max2_int min2_int max_two min_two max_three min_three max_four min_four   -- for this text's walks alone
set_option linter.unusedVariables false
set_option linter.unusedSimpArgs false
end Go.Proofs.Ytononmcodecmaaa.Q
