import Derived.Test.YtononmcodecmaaaTQx0
import Derived.Test.YtononmcodecmaaaTQx1
import Derived.Test.YtononmcodecmaaaTQx2
import Derived.Test.YtononmcodecmaaaTQx3
import Derived.Test.YtononmcodecmaaaTQx4
import Derived.Test.YtononmcodecmaaaTQx5
import Derived.Test.YtononmcodecmaaaTQx6
import Derived.Test.YtononmcodecmaaaTQx7
import Derived.Test.YtononmcodecmaaaTQx8
import Derived.Test.YtononmcodecmaaaTQx9
import Derived.Test.YtononmcodecmaaaTQx10
import Derived.Test.YtononmcodecmaaaTQx11
import Derived.Test.YtononmcodecmaaaTQx12
import Derived.Test.YtononmcodecmaaaTQx13
import Derived.Test.YtononmcodecmaaaTQx14
import Derived.Test.YtononmcodecmaaaTQx15
import Derived.Test.YtononmcodecmaaaTQx16
import Derived.Test.YtononmcodecmaaaTQx17
import Derived.Test.YtononmcodecmaaaTQx18
import Derived.Test.YtononmcodecmaaaTQx19
import Derived.Test.YtononmcodecmaaaTQx20
import Derived.Test.YtononmcodecmaaaTQx21
import Derived.Test.YtononmcodecmaaaTQx22
import Derived.Test.YtononmcodecmaaaTQx23
import Derived.Test.YtononmcodecmaaaTQx24
namespace Go.Proofs.Ytononmcodecmaaa.Q
open Go.RowKit Go.Proofs.YtononmcodecmaaaW.PrintWords Go.Proofs.YtononmcodecmaaaW.PrintLast Go.Proofs.YtononmcodecmaaaW.PrintMore
attribute [local go_sem] max2_int min2_int max_two min_two max_three min_three max_four min_four   -- for this text's walks alone
set_option linter.unusedVariables false
set_option linter.unusedSimpArgs false
end Go.Proofs.Ytononmcodecmaaa.Q
