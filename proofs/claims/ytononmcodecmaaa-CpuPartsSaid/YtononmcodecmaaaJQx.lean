import Derived.Test.YtononmcodecmaaaJQx0
import Derived.Test.YtononmcodecmaaaJQx1
import Derived.Test.YtononmcodecmaaaJQx2
import Derived.Test.YtononmcodecmaaaJQx3
import Derived.Test.YtononmcodecmaaaJQx4
import Derived.Test.YtononmcodecmaaaJQx5
import Derived.Test.YtononmcodecmaaaJQx6
import Derived.Test.YtononmcodecmaaaJQx7
import Derived.Test.YtononmcodecmaaaJQx8
import Derived.Test.YtononmcodecmaaaJQx9
import Derived.Test.YtononmcodecmaaaJQx10
import Derived.Test.YtononmcodecmaaaJQx11
import Derived.Test.YtononmcodecmaaaJQx12
import Derived.Test.YtononmcodecmaaaJQx13
import Derived.Test.YtononmcodecmaaaJQx14
import Derived.Test.YtononmcodecmaaaJQx15
import Derived.Test.YtononmcodecmaaaJQx16
import Derived.Test.YtononmcodecmaaaJQx17
import Derived.Test.YtononmcodecmaaaJQx18
import Derived.Test.YtononmcodecmaaaJQx19
import Derived.Test.YtononmcodecmaaaJQx20
import Derived.Test.YtononmcodecmaaaJQx21
import Derived.Test.YtononmcodecmaaaJQx22
import Derived.Test.YtononmcodecmaaaJQx23
import Derived.Test.YtononmcodecmaaaJQx24
namespace Go.Proofs.Ytononmcodecmaaa.Q
open Go.RowKit Go.Proofs.YtononmcodecmaaaW.PrintWords Go.Proofs.YtononmcodecmaaaW.PrintLast Go.Proofs.YtononmcodecmaaaW.PrintMore
attribute [local go_sem] max2_int min2_int max_two min_two max_three min_three max_four min_four   -- for this text's walks alone
set_option linter.unusedVariables false
set_option linter.unusedSimpArgs false
end Go.Proofs.Ytononmcodecmaaa.Q
