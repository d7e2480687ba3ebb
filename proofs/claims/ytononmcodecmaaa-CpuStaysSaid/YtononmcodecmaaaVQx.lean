import Derived.Test.YtononmcodecmaaaVQx0
import Derived.Test.YtononmcodecmaaaVQx1
import Derived.Test.YtononmcodecmaaaVQx2
import Derived.Test.YtononmcodecmaaaVQx3
import Derived.Test.YtononmcodecmaaaVQx4
import Derived.Test.YtononmcodecmaaaVQx5
import Derived.Test.YtononmcodecmaaaVQx6
import Derived.Test.YtononmcodecmaaaVQx7
import Derived.Test.YtononmcodecmaaaVQx8
import Derived.Test.YtononmcodecmaaaVQx9
import Derived.Test.YtononmcodecmaaaVQx10
import Derived.Test.YtononmcodecmaaaVQx11
import Derived.Test.YtononmcodecmaaaVQx12
import Derived.Test.YtononmcodecmaaaVQx13
import Derived.Test.YtononmcodecmaaaVQx14
import Derived.Test.YtononmcodecmaaaVQx15
import Derived.Test.YtononmcodecmaaaVQx16
import Derived.Test.YtononmcodecmaaaVQx17
import Derived.Test.YtononmcodecmaaaVQx18
import Derived.Test.YtononmcodecmaaaVQx19
import Derived.Test.YtononmcodecmaaaVQx20
import Derived.Test.YtononmcodecmaaaVQx21
import Derived.Test.YtononmcodecmaaaVQx22
import Derived.Test.YtononmcodecmaaaVQx23
import Derived.Test.YtononmcodecmaaaVQx24
namespace Go.Proofs.Ytononmcodecmaaa.Q
open Go.RowKit Go.Proofs.YtononmcodecmaaaW.PrintWords Go.Proofs.YtononmcodecmaaaW.PrintLast Go.Proofs.YtononmcodecmaaaW.PrintMore
attribute [local go_sem] max2_int min2_int max_two min_two max_three min_three max_four min_four   -- for this text's walks alone
set_option linter.unusedVariables false
set_option linter.unusedSimpArgs false
end Go.Proofs.Ytononmcodecmaaa.Q
