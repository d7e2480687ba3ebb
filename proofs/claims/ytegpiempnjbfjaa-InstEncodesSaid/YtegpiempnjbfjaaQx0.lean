-- Written by this session's own driver (wip/tools/ownprint.py) over the kit's print: walks of the translated Go, each function once.
import Derived.Test.YtegpiempnjbfjaaProg
import Derived.Below
import Derived.Deep.Draws
import Derived.Deep.AppendLies
import Derived.Maps.AppendAt
import Derived.OwnWalk
import Derived.Laws.BytesArg
import Derived.Laws.MakeOwn
import Derived.Laws.OwnMore
import Derived.Deep.OwnRows
import Derived.Tactics
import Derived.Lib.ConvBytes
import Derived.Laws.Slices
import Derived.WalkKit
import Derived.KernelRfl
import Derived.RowKit3
import Derived.Deep.LoopGhost
import Derived.Deep.QuietTactic
import Derived.BigQuiet
import Derived.WideLaws
import Derived.Deep.DeepCutAuto
import Derived.Deep.CutBlock
import Derived.Deep.RegionHeld3
import Derived.Laws.Rows
import Derived.Lib.AppendStr
import Derived.ArgAppend
import Derived.Laws.IdiomCopy
import Derived.OrdersHeld
import Derived.Laws.BitsLemmas
import Derived.RowKit
import Derived.Outline
import Derived.Deep.RegionWith
import Derived.Laws.Tables
import Derived.Test.YtegpiempnjbfjaaWWords
import Derived.Test.YtegpiempnjbfjaaWLast
import Derived.Test.YtegpiempnjbfjaaWTab
import Derived.Test.YtegpiempnjbfjaaWFour
import Derived.Test.YtegpiempnjbfjaaWQPut
import Derived.Test.YtegpiempnjbfjaaWApart
import Derived.Test.YtegpiempnjbfjaaWArr
import Derived.Test.YtegpiempnjbfjaaWZeros
import Derived.Test.YtegpiempnjbfjaaWFoot
import Derived.Test.YtegpiempnjbfjaaWKept
import Derived.Test.YtegpiempnjbfjaaWShare
import Derived.Test.YtegpiempnjbfjaaWN
import Derived.Test.YtegpiempnjbfjaaWFootNe
import Derived.Test.YtegpiempnjbfjaaWAt
import Derived.Test.YtegpiempnjbfjaaWEqStruct
import Derived.Test.YtegpiempnjbfjaaWRepsOne
import Derived.Test.YtegpiempnjbfjaaWInv
import Derived.Test.YtegpiempnjbfjaaWInvWords
import Derived.Test.YtegpiempnjbfjaaWGuard
import Derived.Test.YtegpiempnjbfjaaWNEv
import Derived.Test.YtegpiempnjbfjaaWMore
namespace Go.Proofs.Ytegpiempnjbfjaa.Q
open Go.RowKit Go.Proofs.YtegpiempnjbfjaaW.PrintWords Go.Proofs.YtegpiempnjbfjaaW.PrintLast Go.Proofs.YtegpiempnjbfjaaW.PrintMore
attribute [local go_sem] max2_int min2_int max_two min_two max_three min_three max_four min_four   -- for this text's walks alone
set_option linter.unusedVariables false
set_option linter.unusedSimpArgs false

theorem imax_u32 : IntKind.max .u32 = 4294967295 := rfl
theorem imax_u8 : IntKind.max .u8 = 255 := rfl
theorem isg_u32 : IntKind.signed .u32 = false := rfl
theorem isg_u8 : IntKind.signed .u8 = false := rfl


def errW : Option Int → Value
  | none => .nilIface
  | some c => .iface 0 (.int .i64 c)
theorem errW_none : errW none = .nilIface := rfl
theorem errW_some (c : Int) : errW (some c) = .iface 0 (.int .i64 c) := rfl

theorem info3 : (Try.prog.info? 3).map (fun i => (i.zero, i.size, i.bytes)) = some (some (.int .i64 0), 1, 8) := by kernel_rfl
theorem info22 : (Try.prog.info? 22).map (fun i => (i.zero, i.size, i.bytes)) = some (some (.int .u32 0), 1, 4) := by kernel_rfl
-- the values' own types

end Go.Proofs.Ytegpiempnjbfjaa.Q
