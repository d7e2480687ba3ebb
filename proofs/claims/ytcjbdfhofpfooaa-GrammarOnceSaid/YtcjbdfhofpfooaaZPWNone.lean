import Derived.Test.YtcjbdfhofpfooaaZQx0
import Derived.Test.YtcjbdfhofpfooaaZQx7
import Derived.Test.YtcjbdfhofpfooaaZQx8
import Derived.Test.YtcjbdfhofpfooaaZPD
import Derived.WalkKit
import Derived.Outline
namespace Go.Proofs.Ytcjbdfhofpfooaa.Q
open Go.RowKit Go.Proofs.YtcjbdfhofpfooaaW.PrintWords Go.Proofs.YtcjbdfhofpfooaaW.PrintLast Go.Proofs.YtcjbdfhofpfooaaW.PrintMore
set_option linter.unusedVariables false
set_option linter.unusedSimpArgs false
attribute [local go_sem] max2_int min2_int max_two min_two max_three min_three max_four min_four
attribute [local go_sem] imax_u32 imax_u8 isg_u32 isg_u8
theorem Bx.set3 {w : World} {b : Nat} {A0 A1 A2 : Option Addr} {m0 m1 m2 c0 c1 c2 : Nat} {len : Int} (h : Bx w b A0 A1 A2 m0 m1 m2 c0 c1 c2 len) (n : Int) : Bx (w.setCell ⟨b, 3, none⟩ (.int .i64 n)) b A0 A1 A2 m0 m1 m2 c0 c1 c2 n := blk_put h 3 _ rfl
end Go.Proofs.Ytcjbdfhofpfooaa.Q
