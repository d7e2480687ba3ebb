/-
  No cell of these rows narrows 'for every input' (looked for: loops, veiled, ifaces, maps, wideKeys, modest, calm, conditions, laid).
  DERIVED. THE GIVEN ROWS OF THIS SEAT. 29 by the template 'for every input the law returns true; each argument reads behind the call as it read before'; 0 by the template 'total and deterministic' (their statements: YtoabchfdbjhjcaaTotals.lean).
  GIVEN WITH THE SEED: the statements are not yours to turn. If you find one false, say at which input.
  Laid BY PROGRAM, IN A SANDBOX (cutbox-rows.mjs): the forced cells as the released guide's own fill.sh prints them over the translation dfa7bbf89f40466a… (all of the seat's roots in one cut). By AI agents, Wed Nov 11 2026. No macro, syntax, notation, axiom, sorry.
-/
import Derived.Test.YtoabchfdbjhjcaaChecked
import GoSem.Claim
import GoSem.ClaimJoined
import GoSem.ClaimMapViews
import Derived.JoinedTies
import Derived.KernelRfl
namespace Go.Proofs.Ytoabchfdbjhjcaa
/- THE CELL 'sum', in the pinned program and in every row, IS THE sha256 OF THE DUMP (.gsa) THAT YtoabchfdbjhjcaaProg.lean LOADS. Nothing in Lean hashes anything: it is a label: what it is worth is what the hold of that sum in a sandbox is worth. -/
noncomputable def Try.pinned : Pinned := { name := "ytoabchfdbjhjcaa", sum := "dfa7bbf89f40466a55c577b58862f165b9558c12aab1d78ceb6a17bba5d37787", checked := Try.checked }
namespace Rows
def none {H : Type} : Left H := { results := [], args := [] }

/-- 'whetstonelaw02.InstDecodes': WHATEVER THE INPUT: true; the input reads as it did. -/
def instDecodesSpec : ChangeSpec := { name := "instDecodes", fn := fun _ => fun
  | [d] => { results := [.lit (.bool true)], args := [d] }
  | _ => none }
def instDecodesRow : OpenClaim := { program := "ytoabchfdbjhjcaa", sum := "dfa7bbf89f40466a55c577b58862f165b9558c12aab1d78ceb6a17bba5d37787", func := "whetstone/whetstonelaw02.InstDecodes", spec := "instDecodes", unfollowed := true, recurses := true, apart := false }
def InstDecodesSaid : Prop := instDecodesRow.holds Try.pinned (OpenSpec.ofChange instDecodesSpec)

/-- ITS FALSE NEIGHBOUR: 'it returns false'. Refute it at one input. -/
def instDecodesWrong : ChangeSpec := { name := "instDecodes", fn := fun _ => fun
  | [d] => { results := [.lit (.bool false)], args := [d] }
  | _ => none }
def InstDecodesWrongFalsely : Prop := instDecodesRow.holds Try.pinned (OpenSpec.ofChange instDecodesWrong)

/-- 'whetstonelaw02.InstEncodes': WHATEVER THE INPUT: true; the input reads as it did. -/
def instEncodesSpec : ChangeSpec := { name := "instEncodes", fn := fun _ => fun
  | [d] => { results := [.lit (.bool true)], args := [d] }
  | _ => none }
def instEncodesRow : OpenClaim := { program := "ytoabchfdbjhjcaa", sum := "dfa7bbf89f40466a55c577b58862f165b9558c12aab1d78ceb6a17bba5d37787", func := "whetstone/whetstonelaw02.InstEncodes", spec := "instEncodes", unfollowed := true, recurses := true, apart := false }
def InstEncodesSaid : Prop := instEncodesRow.holds Try.pinned (OpenSpec.ofChange instEncodesSpec)

/-- ITS FALSE NEIGHBOUR: 'it returns false'. Refute it at one input. -/
def instEncodesWrong : ChangeSpec := { name := "instEncodes", fn := fun _ => fun
  | [d] => { results := [.lit (.bool false)], args := [d] }
  | _ => none }
def InstEncodesWrongFalsely : Prop := instEncodesRow.holds Try.pinned (OpenSpec.ofChange instEncodesWrong)

/-- 'whetstonelaw02.InstBack': WHATEVER THE INPUT: true; the input reads as it did. -/
def instBackSpec : ChangeSpec := { name := "instBack", fn := fun _ => fun
  | [d1, d2, d3] => { results := [.lit (.bool true)], args := [d1, d2, d3] }
  | _ => none }
def instBackRow : OpenClaim := { program := "ytoabchfdbjhjcaa", sum := "dfa7bbf89f40466a55c577b58862f165b9558c12aab1d78ceb6a17bba5d37787", func := "whetstone/whetstonelaw02.InstBack", spec := "instBack", unfollowed := true, recurses := true, apart := false }
def InstBackSaid : Prop := instBackRow.holds Try.pinned (OpenSpec.ofChange instBackSpec)

/-- ITS FALSE NEIGHBOUR: 'it returns false'. Refute it at one input. -/
def instBackWrong : ChangeSpec := { name := "instBack", fn := fun _ => fun
  | [d1, d2, d3] => { results := [.lit (.bool false)], args := [d1, d2, d3] }
  | _ => none }
def InstBackWrongFalsely : Prop := instBackRow.holds Try.pinned (OpenSpec.ofChange instBackWrong)

/-- 'whetstonelaw02.InstKinds': WHATEVER THE INPUT: true; the input reads as it did. -/
def instKindsSpec : ChangeSpec := { name := "instKinds", fn := fun _ => fun
  | [d] => { results := [.lit (.bool true)], args := [d] }
  | _ => none }
def instKindsRow : OpenClaim := { program := "ytoabchfdbjhjcaa", sum := "dfa7bbf89f40466a55c577b58862f165b9558c12aab1d78ceb6a17bba5d37787", func := "whetstone/whetstonelaw02.InstKinds", spec := "instKinds", unfollowed := true, recurses := true, apart := false }
def InstKindsSaid : Prop := instKindsRow.holds Try.pinned (OpenSpec.ofChange instKindsSpec)

/-- ITS FALSE NEIGHBOUR: 'it returns false'. Refute it at one input. -/
def instKindsWrong : ChangeSpec := { name := "instKinds", fn := fun _ => fun
  | [d] => { results := [.lit (.bool false)], args := [d] }
  | _ => none }
def InstKindsWrongFalsely : Prop := instKindsRow.holds Try.pinned (OpenSpec.ofChange instKindsWrong)

/-- 'whetstonelaw02.InstBits': WHATEVER THE INPUT: true; the input reads as it did. -/
def instBitsSpec : ChangeSpec := { name := "instBits", fn := fun _ => fun
  | [d1, d2] => { results := [.lit (.bool true)], args := [d1, d2] }
  | _ => none }
def instBitsRow : OpenClaim := { program := "ytoabchfdbjhjcaa", sum := "dfa7bbf89f40466a55c577b58862f165b9558c12aab1d78ceb6a17bba5d37787", func := "whetstone/whetstonelaw02.InstBits", spec := "instBits", unfollowed := true, recurses := true, apart := false }
def InstBitsSaid : Prop := instBitsRow.holds Try.pinned (OpenSpec.ofChange instBitsSpec)

/-- ITS FALSE NEIGHBOUR: 'it returns false'. Refute it at one input. -/
def instBitsWrong : ChangeSpec := { name := "instBits", fn := fun _ => fun
  | [d1, d2] => { results := [.lit (.bool false)], args := [d1, d2] }
  | _ => none }
def InstBitsWrongFalsely : Prop := instBitsRow.holds Try.pinned (OpenSpec.ofChange instBitsWrong)

/-- 'whetstonelaw02.InstSteps': WHATEVER THE INPUT: true; the input reads as it did. -/
def instStepsSpec : ChangeSpec := { name := "instSteps", fn := fun _ => fun
  | [d1, d2] => { results := [.lit (.bool true)], args := [d1, d2] }
  | _ => none }
def instStepsRow : OpenClaim := { program := "ytoabchfdbjhjcaa", sum := "dfa7bbf89f40466a55c577b58862f165b9558c12aab1d78ceb6a17bba5d37787", func := "whetstone/whetstonelaw02.InstSteps", spec := "instSteps", unfollowed := true, recurses := true, apart := false }
def InstStepsSaid : Prop := instStepsRow.holds Try.pinned (OpenSpec.ofChange instStepsSpec)

/-- ITS FALSE NEIGHBOUR: 'it returns false'. Refute it at one input. -/
def instStepsWrong : ChangeSpec := { name := "instSteps", fn := fun _ => fun
  | [d1, d2] => { results := [.lit (.bool false)], args := [d1, d2] }
  | _ => none }
def InstStepsWrongFalsely : Prop := instStepsRow.holds Try.pinned (OpenSpec.ofChange instStepsWrong)

/-- 'whetstonelaw02.InstTurned': WHATEVER THE INPUT: true; the input reads as it did. -/
def instTurnedSpec : ChangeSpec := { name := "instTurned", fn := fun _ => fun
  | [d1, d2] => { results := [.lit (.bool true)], args := [d1, d2] }
  | _ => none }
def instTurnedRow : OpenClaim := { program := "ytoabchfdbjhjcaa", sum := "dfa7bbf89f40466a55c577b58862f165b9558c12aab1d78ceb6a17bba5d37787", func := "whetstone/whetstonelaw02.InstTurned", spec := "instTurned", unfollowed := true, recurses := true, apart := false }
def InstTurnedSaid : Prop := instTurnedRow.holds Try.pinned (OpenSpec.ofChange instTurnedSpec)

/-- ITS FALSE NEIGHBOUR: 'it returns false'. Refute it at one input. -/
def instTurnedWrong : ChangeSpec := { name := "instTurned", fn := fun _ => fun
  | [d1, d2] => { results := [.lit (.bool false)], args := [d1, d2] }
  | _ => none }
def InstTurnedWrongFalsely : Prop := instTurnedRow.holds Try.pinned (OpenSpec.ofChange instTurnedWrong)

/-- 'whetstonelaw02.InstForms': WHATEVER THE INPUT: true; the input reads as it did. -/
def instFormsSpec : ChangeSpec := { name := "instForms", fn := fun _ => fun
  | [d] => { results := [.lit (.bool true)], args := [d] }
  | _ => none }
def instFormsRow : OpenClaim := { program := "ytoabchfdbjhjcaa", sum := "dfa7bbf89f40466a55c577b58862f165b9558c12aab1d78ceb6a17bba5d37787", func := "whetstone/whetstonelaw02.InstForms", spec := "instForms", unfollowed := true, recurses := true, apart := false }
def InstFormsSaid : Prop := instFormsRow.holds Try.pinned (OpenSpec.ofChange instFormsSpec)

/-- ITS FALSE NEIGHBOUR: 'it returns false'. Refute it at one input. -/
def instFormsWrong : ChangeSpec := { name := "instForms", fn := fun _ => fun
  | [d] => { results := [.lit (.bool false)], args := [d] }
  | _ => none }
def InstFormsWrongFalsely : Prop := instFormsRow.holds Try.pinned (OpenSpec.ofChange instFormsWrong)

/-- 'whetstonelaw02.InstPlain': WHATEVER THE INPUT: true; the input reads as it did. -/
def instPlainSpec : ChangeSpec := { name := "instPlain", fn := fun _ => fun
  | [d] => { results := [.lit (.bool true)], args := [d] }
  | _ => none }
def instPlainRow : OpenClaim := { program := "ytoabchfdbjhjcaa", sum := "dfa7bbf89f40466a55c577b58862f165b9558c12aab1d78ceb6a17bba5d37787", func := "whetstone/whetstonelaw02.InstPlain", spec := "instPlain", unfollowed := true, recurses := true, apart := false }
def InstPlainSaid : Prop := instPlainRow.holds Try.pinned (OpenSpec.ofChange instPlainSpec)

/-- ITS FALSE NEIGHBOUR: 'it returns false'. Refute it at one input. -/
def instPlainWrong : ChangeSpec := { name := "instPlain", fn := fun _ => fun
  | [d] => { results := [.lit (.bool false)], args := [d] }
  | _ => none }
def InstPlainWrongFalsely : Prop := instPlainRow.holds Try.pinned (OpenSpec.ofChange instPlainWrong)

/-- 'whetstonelaw18.GrammarCosts': WHATEVER THE INPUT: true; the input reads as it did. -/
def grammarCostsSpec : ChangeSpec := { name := "grammarCosts", fn := fun _ => fun
  | [d] => { results := [.lit (.bool true)], args := [d] }
  | _ => none }
def grammarCostsRow : OpenClaim := { program := "ytoabchfdbjhjcaa", sum := "dfa7bbf89f40466a55c577b58862f165b9558c12aab1d78ceb6a17bba5d37787", func := "whetstone/whetstonelaw18.GrammarCosts", spec := "grammarCosts", unfollowed := true, recurses := true, apart := false }
def GrammarCostsSaid : Prop := grammarCostsRow.holds Try.pinned (OpenSpec.ofChange grammarCostsSpec)

/-- ITS FALSE NEIGHBOUR: 'it returns false'. Refute it at one input. -/
def grammarCostsWrong : ChangeSpec := { name := "grammarCosts", fn := fun _ => fun
  | [d] => { results := [.lit (.bool false)], args := [d] }
  | _ => none }
def GrammarCostsWrongFalsely : Prop := grammarCostsRow.holds Try.pinned (OpenSpec.ofChange grammarCostsWrong)

/-- 'whetstonelaw18.GrammarInsts': WHATEVER THE INPUT: true; the input reads as it did. -/
def grammarInstsSpec : ChangeSpec := { name := "grammarInsts", fn := fun _ => fun
  | [d] => { results := [.lit (.bool true)], args := [d] }
  | _ => none }
def grammarInstsRow : OpenClaim := { program := "ytoabchfdbjhjcaa", sum := "dfa7bbf89f40466a55c577b58862f165b9558c12aab1d78ceb6a17bba5d37787", func := "whetstone/whetstonelaw18.GrammarInsts", spec := "grammarInsts", unfollowed := true, recurses := true, apart := false }
def GrammarInstsSaid : Prop := grammarInstsRow.holds Try.pinned (OpenSpec.ofChange grammarInstsSpec)

/-- ITS FALSE NEIGHBOUR: 'it returns false'. Refute it at one input. -/
def grammarInstsWrong : ChangeSpec := { name := "grammarInsts", fn := fun _ => fun
  | [d] => { results := [.lit (.bool false)], args := [d] }
  | _ => none }
def GrammarInstsWrongFalsely : Prop := grammarInstsRow.holds Try.pinned (OpenSpec.ofChange grammarInstsWrong)

/-- 'whetstonelaw18.GrammarRuns': WHATEVER THE INPUT: true; the input reads as it did. -/
def grammarRunsSpec : ChangeSpec := { name := "grammarRuns", fn := fun _ => fun
  | [d1, d2] => { results := [.lit (.bool true)], args := [d1, d2] }
  | _ => none }
def grammarRunsRow : OpenClaim := { program := "ytoabchfdbjhjcaa", sum := "dfa7bbf89f40466a55c577b58862f165b9558c12aab1d78ceb6a17bba5d37787", func := "whetstone/whetstonelaw18.GrammarRuns", spec := "grammarRuns", unfollowed := true, recurses := true, apart := false }
def GrammarRunsSaid : Prop := grammarRunsRow.holds Try.pinned (OpenSpec.ofChange grammarRunsSpec)

/-- ITS FALSE NEIGHBOUR: 'it returns false'. Refute it at one input. -/
def grammarRunsWrong : ChangeSpec := { name := "grammarRuns", fn := fun _ => fun
  | [d1, d2] => { results := [.lit (.bool false)], args := [d1, d2] }
  | _ => none }
def GrammarRunsWrongFalsely : Prop := grammarRunsRow.holds Try.pinned (OpenSpec.ofChange grammarRunsWrong)

/-- 'whetstonelaw18.GrammarBig': WHATEVER THE INPUT: true; the input reads as it did. -/
def grammarBigSpec : ChangeSpec := { name := "grammarBig", fn := fun _ => fun
  | [d] => { results := [.lit (.bool true)], args := [d] }
  | _ => none }
def grammarBigRow : OpenClaim := { program := "ytoabchfdbjhjcaa", sum := "dfa7bbf89f40466a55c577b58862f165b9558c12aab1d78ceb6a17bba5d37787", func := "whetstone/whetstonelaw18.GrammarBig", spec := "grammarBig", unfollowed := true, recurses := true, apart := false }
def GrammarBigSaid : Prop := grammarBigRow.holds Try.pinned (OpenSpec.ofChange grammarBigSpec)

/-- ITS FALSE NEIGHBOUR: 'it returns false'. Refute it at one input. -/
def grammarBigWrong : ChangeSpec := { name := "grammarBig", fn := fun _ => fun
  | [d] => { results := [.lit (.bool false)], args := [d] }
  | _ => none }
def GrammarBigWrongFalsely : Prop := grammarBigRow.holds Try.pinned (OpenSpec.ofChange grammarBigWrong)

/-- 'whetstonelaw18.GrammarOnce': WHATEVER THE INPUT: true; the input reads as it did. -/
def grammarOnceSpec : ChangeSpec := { name := "grammarOnce", fn := fun _ => fun
  | [d1, d2] => { results := [.lit (.bool true)], args := [d1, d2] }
  | _ => none }
def grammarOnceRow : OpenClaim := { program := "ytoabchfdbjhjcaa", sum := "dfa7bbf89f40466a55c577b58862f165b9558c12aab1d78ceb6a17bba5d37787", func := "whetstone/whetstonelaw18.GrammarOnce", spec := "grammarOnce", unfollowed := true, recurses := true, apart := false }
def GrammarOnceSaid : Prop := grammarOnceRow.holds Try.pinned (OpenSpec.ofChange grammarOnceSpec)

/-- ITS FALSE NEIGHBOUR: 'it returns false'. Refute it at one input. -/
def grammarOnceWrong : ChangeSpec := { name := "grammarOnce", fn := fun _ => fun
  | [d1, d2] => { results := [.lit (.bool false)], args := [d1, d2] }
  | _ => none }
def GrammarOnceWrongFalsely : Prop := grammarOnceRow.holds Try.pinned (OpenSpec.ofChange grammarOnceWrong)

/-- 'whetstonelaw18.GrammarNone': WHATEVER THE INPUT: true; the input reads as it did. -/
def grammarNoneSpec : ChangeSpec := { name := "grammarNone", fn := fun _ => fun
  | [d1, d2] => { results := [.lit (.bool true)], args := [d1, d2] }
  | _ => none }
def grammarNoneRow : OpenClaim := { program := "ytoabchfdbjhjcaa", sum := "dfa7bbf89f40466a55c577b58862f165b9558c12aab1d78ceb6a17bba5d37787", func := "whetstone/whetstonelaw18.GrammarNone", spec := "grammarNone", unfollowed := true, recurses := true, apart := false }
def GrammarNoneSaid : Prop := grammarNoneRow.holds Try.pinned (OpenSpec.ofChange grammarNoneSpec)

/-- ITS FALSE NEIGHBOUR: 'it returns false'. Refute it at one input. -/
def grammarNoneWrong : ChangeSpec := { name := "grammarNone", fn := fun _ => fun
  | [d1, d2] => { results := [.lit (.bool false)], args := [d1, d2] }
  | _ => none }
def GrammarNoneWrongFalsely : Prop := grammarNoneRow.holds Try.pinned (OpenSpec.ofChange grammarNoneWrong)

/-- 'whetstonelaw18.GrammarTwice': WHATEVER THE INPUT: true; the input reads as it did. -/
def grammarTwiceSpec : ChangeSpec := { name := "grammarTwice", fn := fun _ => fun
  | [d1, d2, d3] => { results := [.lit (.bool true)], args := [d1, d2, d3] }
  | _ => none }
def grammarTwiceRow : OpenClaim := { program := "ytoabchfdbjhjcaa", sum := "dfa7bbf89f40466a55c577b58862f165b9558c12aab1d78ceb6a17bba5d37787", func := "whetstone/whetstonelaw18.GrammarTwice", spec := "grammarTwice", unfollowed := true, recurses := true, apart := false }
def GrammarTwiceSaid : Prop := grammarTwiceRow.holds Try.pinned (OpenSpec.ofChange grammarTwiceSpec)

/-- ITS FALSE NEIGHBOUR: 'it returns false'. Refute it at one input. -/
def grammarTwiceWrong : ChangeSpec := { name := "grammarTwice", fn := fun _ => fun
  | [d1, d2, d3] => { results := [.lit (.bool false)], args := [d1, d2, d3] }
  | _ => none }
def GrammarTwiceWrongFalsely : Prop := grammarTwiceRow.holds Try.pinned (OpenSpec.ofChange grammarTwiceWrong)

/-- 'whetstonelaw18.GrammarSums': WHATEVER THE INPUT: true; the input reads as it did. -/
def grammarSumsSpec : ChangeSpec := { name := "grammarSums", fn := fun _ => fun
  | [d1, d2] => { results := [.lit (.bool true)], args := [d1, d2] }
  | _ => none }
def grammarSumsRow : OpenClaim := { program := "ytoabchfdbjhjcaa", sum := "dfa7bbf89f40466a55c577b58862f165b9558c12aab1d78ceb6a17bba5d37787", func := "whetstone/whetstonelaw18.GrammarSums", spec := "grammarSums", unfollowed := true, recurses := true, apart := false }
def GrammarSumsSaid : Prop := grammarSumsRow.holds Try.pinned (OpenSpec.ofChange grammarSumsSpec)

/-- ITS FALSE NEIGHBOUR: 'it returns false'. Refute it at one input. -/
def grammarSumsWrong : ChangeSpec := { name := "grammarSums", fn := fun _ => fun
  | [d1, d2] => { results := [.lit (.bool false)], args := [d1, d2] }
  | _ => none }
def GrammarSumsWrongFalsely : Prop := grammarSumsRow.holds Try.pinned (OpenSpec.ofChange grammarSumsWrong)

/-- 'whetstonelaw03.MemApart': WHATEVER THE INPUT: true; the input reads as it did. -/
def memApartSpec : ChangeSpec := { name := "memApart", fn := fun _ => fun
  | [d1, d2, d3] => { results := [.lit (.bool true)], args := [d1, d2, d3] }
  | _ => none }
def memApartRow : OpenClaim := { program := "ytoabchfdbjhjcaa", sum := "dfa7bbf89f40466a55c577b58862f165b9558c12aab1d78ceb6a17bba5d37787", func := "whetstone/whetstonelaw03.MemApart", spec := "memApart", unfollowed := true, recurses := true, apart := false }
def MemApartSaid : Prop := memApartRow.holds Try.pinned (OpenSpec.ofChange memApartSpec)

/-- ITS FALSE NEIGHBOUR: 'it returns false'. Refute it at one input. -/
def memApartWrong : ChangeSpec := { name := "memApart", fn := fun _ => fun
  | [d1, d2, d3] => { results := [.lit (.bool false)], args := [d1, d2, d3] }
  | _ => none }
def MemApartWrongFalsely : Prop := memApartRow.holds Try.pinned (OpenSpec.ofChange memApartWrong)

/-- 'whetstonelaw03.MemBack': WHATEVER THE INPUT: true; the input reads as it did. -/
def memBackSpec : ChangeSpec := { name := "memBack", fn := fun _ => fun
  | [d1, d2, d3] => { results := [.lit (.bool true)], args := [d1, d2, d3] }
  | _ => none }
def memBackRow : OpenClaim := { program := "ytoabchfdbjhjcaa", sum := "dfa7bbf89f40466a55c577b58862f165b9558c12aab1d78ceb6a17bba5d37787", func := "whetstone/whetstonelaw03.MemBack", spec := "memBack", unfollowed := true, recurses := true, apart := false }
def MemBackSaid : Prop := memBackRow.holds Try.pinned (OpenSpec.ofChange memBackSpec)

/-- ITS FALSE NEIGHBOUR: 'it returns false'. Refute it at one input. -/
def memBackWrong : ChangeSpec := { name := "memBack", fn := fun _ => fun
  | [d1, d2, d3] => { results := [.lit (.bool false)], args := [d1, d2, d3] }
  | _ => none }
def MemBackWrongFalsely : Prop := memBackRow.holds Try.pinned (OpenSpec.ofChange memBackWrong)

/-- 'whetstonelaw03.MemCells': WHATEVER THE INPUT: true; the input reads as it did. -/
def memCellsSpec : ChangeSpec := { name := "memCells", fn := fun _ => fun
  | [d] => { results := [.lit (.bool true)], args := [d] }
  | _ => none }
def memCellsRow : OpenClaim := { program := "ytoabchfdbjhjcaa", sum := "dfa7bbf89f40466a55c577b58862f165b9558c12aab1d78ceb6a17bba5d37787", func := "whetstone/whetstonelaw03.MemCells", spec := "memCells", unfollowed := true, recurses := true, apart := false }
def MemCellsSaid : Prop := memCellsRow.holds Try.pinned (OpenSpec.ofChange memCellsSpec)

/-- ITS FALSE NEIGHBOUR: 'it returns false'. Refute it at one input. -/
def memCellsWrong : ChangeSpec := { name := "memCells", fn := fun _ => fun
  | [d] => { results := [.lit (.bool false)], args := [d] }
  | _ => none }
def MemCellsWrongFalsely : Prop := memCellsRow.holds Try.pinned (OpenSpec.ofChange memCellsWrong)

/-- 'whetstonelaw03.MemSplit': WHATEVER THE INPUT: true; the input reads as it did. -/
def memSplitSpec : ChangeSpec := { name := "memSplit", fn := fun _ => fun
  | [d1, d2, d3] => { results := [.lit (.bool true)], args := [d1, d2, d3] }
  | _ => none }
def memSplitRow : OpenClaim := { program := "ytoabchfdbjhjcaa", sum := "dfa7bbf89f40466a55c577b58862f165b9558c12aab1d78ceb6a17bba5d37787", func := "whetstone/whetstonelaw03.MemSplit", spec := "memSplit", unfollowed := true, recurses := true, apart := false }
def MemSplitSaid : Prop := memSplitRow.holds Try.pinned (OpenSpec.ofChange memSplitSpec)

/-- ITS FALSE NEIGHBOUR: 'it returns false'. Refute it at one input. -/
def memSplitWrong : ChangeSpec := { name := "memSplit", fn := fun _ => fun
  | [d1, d2, d3] => { results := [.lit (.bool false)], args := [d1, d2, d3] }
  | _ => none }
def MemSplitWrongFalsely : Prop := memSplitRow.holds Try.pinned (OpenSpec.ofChange memSplitWrong)

/-- 'whetstonelaw03.MemDoes': WHATEVER THE INPUT: true; the input reads as it did. -/
def memDoesSpec : ChangeSpec := { name := "memDoes", fn := fun _ => fun
  | [d] => { results := [.lit (.bool true)], args := [d] }
  | _ => none }
def memDoesRow : OpenClaim := { program := "ytoabchfdbjhjcaa", sum := "dfa7bbf89f40466a55c577b58862f165b9558c12aab1d78ceb6a17bba5d37787", func := "whetstone/whetstonelaw03.MemDoes", spec := "memDoes", inPlace := ["maps.clone"], unfollowed := true, recurses := true, apart := false }
def MemDoesSaid : Prop := memDoesRow.holds Try.pinned (OpenSpec.ofChange memDoesSpec)

/-- ITS FALSE NEIGHBOUR: 'it returns false'. Refute it at one input. -/
def memDoesWrong : ChangeSpec := { name := "memDoes", fn := fun _ => fun
  | [d] => { results := [.lit (.bool false)], args := [d] }
  | _ => none }
def MemDoesWrongFalsely : Prop := memDoesRow.holds Try.pinned (OpenSpec.ofChange memDoesWrong)

/-- 'whetstonelaw03.MemZero': WHATEVER THE INPUT: true; the input reads as it did. -/
def memZeroSpec : ChangeSpec := { name := "memZero", fn := fun _ => fun
  | [d1, d2] => { results := [.lit (.bool true)], args := [d1, d2] }
  | _ => none }
def memZeroRow : OpenClaim := { program := "ytoabchfdbjhjcaa", sum := "dfa7bbf89f40466a55c577b58862f165b9558c12aab1d78ceb6a17bba5d37787", func := "whetstone/whetstonelaw03.MemZero", spec := "memZero", inPlace := ["maps.clone"], unfollowed := true, recurses := true, apart := false }
def MemZeroSaid : Prop := memZeroRow.holds Try.pinned (OpenSpec.ofChange memZeroSpec)

/-- ITS FALSE NEIGHBOUR: 'it returns false'. Refute it at one input. -/
def memZeroWrong : ChangeSpec := { name := "memZero", fn := fun _ => fun
  | [d1, d2] => { results := [.lit (.bool false)], args := [d1, d2] }
  | _ => none }
def MemZeroWrongFalsely : Prop := memZeroRow.holds Try.pinned (OpenSpec.ofChange memZeroWrong)

/-- 'whetstonelaw04.CpuDoes': WHATEVER THE INPUT: true; the input reads as it did. -/
def cpuDoesSpec : ChangeSpec := { name := "cpuDoes", fn := fun _ => fun
  | [d1, d2] => { results := [.lit (.bool true)], args := [d1, d2] }
  | _ => none }
def cpuDoesRow : OpenClaim := { program := "ytoabchfdbjhjcaa", sum := "dfa7bbf89f40466a55c577b58862f165b9558c12aab1d78ceb6a17bba5d37787", func := "whetstone/whetstonelaw04.CpuDoes", spec := "cpuDoes", unfollowed := true, recurses := true, apart := false }
def CpuDoesSaid : Prop := cpuDoesRow.holds Try.pinned (OpenSpec.ofChange cpuDoesSpec)

/-- ITS FALSE NEIGHBOUR: 'it returns false'. Refute it at one input. -/
def cpuDoesWrong : ChangeSpec := { name := "cpuDoes", fn := fun _ => fun
  | [d1, d2] => { results := [.lit (.bool false)], args := [d1, d2] }
  | _ => none }
def CpuDoesWrongFalsely : Prop := cpuDoesRow.holds Try.pinned (OpenSpec.ofChange cpuDoesWrong)

/-- 'whetstonelaw04.CpuCalls': WHATEVER THE INPUT: true; the input reads as it did. -/
def cpuCallsSpec : ChangeSpec := { name := "cpuCalls", fn := fun _ => fun
  | [d] => { results := [.lit (.bool true)], args := [d] }
  | _ => none }
def cpuCallsRow : OpenClaim := { program := "ytoabchfdbjhjcaa", sum := "dfa7bbf89f40466a55c577b58862f165b9558c12aab1d78ceb6a17bba5d37787", func := "whetstone/whetstonelaw04.CpuCalls", spec := "cpuCalls", unfollowed := true, recurses := true, apart := false }
def CpuCallsSaid : Prop := cpuCallsRow.holds Try.pinned (OpenSpec.ofChange cpuCallsSpec)

/-- ITS FALSE NEIGHBOUR: 'it returns false'. Refute it at one input. -/
def cpuCallsWrong : ChangeSpec := { name := "cpuCalls", fn := fun _ => fun
  | [d] => { results := [.lit (.bool false)], args := [d] }
  | _ => none }
def CpuCallsWrongFalsely : Prop := cpuCallsRow.holds Try.pinned (OpenSpec.ofChange cpuCallsWrong)

/-- 'whetstonelaw04.CpuStays': WHATEVER THE INPUT: true; the input reads as it did. -/
def cpuStaysSpec : ChangeSpec := { name := "cpuStays", fn := fun _ => fun
  | [d] => { results := [.lit (.bool true)], args := [d] }
  | _ => none }
def cpuStaysRow : OpenClaim := { program := "ytoabchfdbjhjcaa", sum := "dfa7bbf89f40466a55c577b58862f165b9558c12aab1d78ceb6a17bba5d37787", func := "whetstone/whetstonelaw04.CpuStays", spec := "cpuStays", unfollowed := true, recurses := true, apart := false }
def CpuStaysSaid : Prop := cpuStaysRow.holds Try.pinned (OpenSpec.ofChange cpuStaysSpec)

/-- ITS FALSE NEIGHBOUR: 'it returns false'. Refute it at one input. -/
def cpuStaysWrong : ChangeSpec := { name := "cpuStays", fn := fun _ => fun
  | [d] => { results := [.lit (.bool false)], args := [d] }
  | _ => none }
def CpuStaysWrongFalsely : Prop := cpuStaysRow.holds Try.pinned (OpenSpec.ofChange cpuStaysWrong)

/-- 'whetstonelaw04.CpuPlain': WHATEVER THE INPUT: true; the input reads as it did. -/
def cpuPlainSpec : ChangeSpec := { name := "cpuPlain", fn := fun _ => fun
  | [d1, d2] => { results := [.lit (.bool true)], args := [d1, d2] }
  | _ => none }
def cpuPlainRow : OpenClaim := { program := "ytoabchfdbjhjcaa", sum := "dfa7bbf89f40466a55c577b58862f165b9558c12aab1d78ceb6a17bba5d37787", func := "whetstone/whetstonelaw04.CpuPlain", spec := "cpuPlain", unfollowed := true, recurses := true, apart := false }
def CpuPlainSaid : Prop := cpuPlainRow.holds Try.pinned (OpenSpec.ofChange cpuPlainSpec)

/-- ITS FALSE NEIGHBOUR: 'it returns false'. Refute it at one input. -/
def cpuPlainWrong : ChangeSpec := { name := "cpuPlain", fn := fun _ => fun
  | [d1, d2] => { results := [.lit (.bool false)], args := [d1, d2] }
  | _ => none }
def CpuPlainWrongFalsely : Prop := cpuPlainRow.holds Try.pinned (OpenSpec.ofChange cpuPlainWrong)

/-- 'whetstonelaw04.CpuParts': WHATEVER THE INPUT: true; the input reads as it did. -/
def cpuPartsSpec : ChangeSpec := { name := "cpuParts", fn := fun _ => fun
  | [d1, d2] => { results := [.lit (.bool true)], args := [d1, d2] }
  | _ => none }
def cpuPartsRow : OpenClaim := { program := "ytoabchfdbjhjcaa", sum := "dfa7bbf89f40466a55c577b58862f165b9558c12aab1d78ceb6a17bba5d37787", func := "whetstone/whetstonelaw04.CpuParts", spec := "cpuParts", inPlace := ["maps.clone"], unfollowed := true, recurses := true, apart := false }
def CpuPartsSaid : Prop := cpuPartsRow.holds Try.pinned (OpenSpec.ofChange cpuPartsSpec)

/-- ITS FALSE NEIGHBOUR: 'it returns false'. Refute it at one input. -/
def cpuPartsWrong : ChangeSpec := { name := "cpuParts", fn := fun _ => fun
  | [d1, d2] => { results := [.lit (.bool false)], args := [d1, d2] }
  | _ => none }
def CpuPartsWrongFalsely : Prop := cpuPartsRow.holds Try.pinned (OpenSpec.ofChange cpuPartsWrong)

/-- 'whetstonelaw04.CpuFuel': WHATEVER THE INPUT: true; the input reads as it did. -/
def cpuFuelSpec : ChangeSpec := { name := "cpuFuel", fn := fun _ => fun
  | [d1, d2] => { results := [.lit (.bool true)], args := [d1, d2] }
  | _ => none }
def cpuFuelRow : OpenClaim := { program := "ytoabchfdbjhjcaa", sum := "dfa7bbf89f40466a55c577b58862f165b9558c12aab1d78ceb6a17bba5d37787", func := "whetstone/whetstonelaw04.CpuFuel", spec := "cpuFuel", inPlace := ["maps.clone"], unfollowed := true, recurses := true, apart := false }
def CpuFuelSaid : Prop := cpuFuelRow.holds Try.pinned (OpenSpec.ofChange cpuFuelSpec)

/-- ITS FALSE NEIGHBOUR: 'it returns false'. Refute it at one input. -/
def cpuFuelWrong : ChangeSpec := { name := "cpuFuel", fn := fun _ => fun
  | [d1, d2] => { results := [.lit (.bool false)], args := [d1, d2] }
  | _ => none }
def CpuFuelWrongFalsely : Prop := cpuFuelRow.holds Try.pinned (OpenSpec.ofChange cpuFuelWrong)

/- THE SECOND FORM. 'bulk': how many values and letters a reading holds, each counted each time it is reached (what is shared counts as often as it is met; a slice's spare places count too). A statement '..UptoSaid' is the law's where the arguments, and the package variables that the reading takes, are together of bulk at most 1048576: NARROWER than '..Said'. Prove '..Said' where nothing that the law and all that it calls make is longer than what came in: it says more and counts as full. Else prove '..UptoSaid'. A law counts once. -/
mutual
def uptoBulk {H : Type} : DataW H → Nat
  | .lit (.string bytes) => bytes.length + 1
  | .lit _ => 1
  | .nil => 1
  | .ptr d => uptoBulk d + 1
  | .slice elems spare => uptoBulkAll elems + uptoBulkAll spare + 1
  | .agg parts => uptoBulkAll parts + 1
  | .iface _ d => uptoBulk d + 1
  | .map entries => uptoBulkEntries entries + 1
  | .held _ => 1
def uptoBulkAll {H : Type} : List (DataW H) → Nat
  | [] => 0
  | d :: r => uptoBulk d + uptoBulkAll r
def uptoBulkEntries {H : Type} : List (Lit × DataW H) → Nat
  | [] => 0
  | x :: r => uptoBulkEntry x + uptoBulkEntries r
def uptoBulkEntry {H : Type} : Lit × DataW H → Nat
  | (.string bytes, d) => bytes.length + uptoBulk d + 1
  | (_, d) => uptoBulk d + 1
 end
def uptoSmall : (H : Type) → List (DataW H) → Bool := fun _ ds => decide (uptoBulkAll ds ≤ 1048576)
def OpenSpec.upto (s : _root_.Go.ChangeSpec) : _root_.Go.OpenSpec := { _root_.Go.OpenSpec.ofChange s with cond := some uptoSmall }

/-- 'whetstonelaw02.InstDecodes', WHERE WHAT IT READS IS OF BULK AT MOST 1048576: true; the input reads as it did. -/
def instDecodesUptoRow : OpenClaim := { program := "ytoabchfdbjhjcaa", sum := "dfa7bbf89f40466a55c577b58862f165b9558c12aab1d78ceb6a17bba5d37787", func := "whetstone/whetstonelaw02.InstDecodes", spec := "instDecodes", unfollowed := true, recurses := true, apart := false, narrowed := true }
def InstDecodesUptoSaid : Prop := instDecodesUptoRow.holds Try.pinned (OpenSpec.upto instDecodesSpec)

/-- 'whetstonelaw02.InstEncodes', WHERE WHAT IT READS IS OF BULK AT MOST 1048576: true; the input reads as it did. -/
def instEncodesUptoRow : OpenClaim := { program := "ytoabchfdbjhjcaa", sum := "dfa7bbf89f40466a55c577b58862f165b9558c12aab1d78ceb6a17bba5d37787", func := "whetstone/whetstonelaw02.InstEncodes", spec := "instEncodes", unfollowed := true, recurses := true, apart := false, narrowed := true }
def InstEncodesUptoSaid : Prop := instEncodesUptoRow.holds Try.pinned (OpenSpec.upto instEncodesSpec)

/-- 'whetstonelaw02.InstBack', WHERE WHAT IT READS IS OF BULK AT MOST 1048576: true; the input reads as it did. -/
def instBackUptoRow : OpenClaim := { program := "ytoabchfdbjhjcaa", sum := "dfa7bbf89f40466a55c577b58862f165b9558c12aab1d78ceb6a17bba5d37787", func := "whetstone/whetstonelaw02.InstBack", spec := "instBack", unfollowed := true, recurses := true, apart := false, narrowed := true }
def InstBackUptoSaid : Prop := instBackUptoRow.holds Try.pinned (OpenSpec.upto instBackSpec)

/-- 'whetstonelaw02.InstKinds', WHERE WHAT IT READS IS OF BULK AT MOST 1048576: true; the input reads as it did. -/
def instKindsUptoRow : OpenClaim := { program := "ytoabchfdbjhjcaa", sum := "dfa7bbf89f40466a55c577b58862f165b9558c12aab1d78ceb6a17bba5d37787", func := "whetstone/whetstonelaw02.InstKinds", spec := "instKinds", unfollowed := true, recurses := true, apart := false, narrowed := true }
def InstKindsUptoSaid : Prop := instKindsUptoRow.holds Try.pinned (OpenSpec.upto instKindsSpec)

/-- 'whetstonelaw02.InstBits', WHERE WHAT IT READS IS OF BULK AT MOST 1048576: true; the input reads as it did. -/
def instBitsUptoRow : OpenClaim := { program := "ytoabchfdbjhjcaa", sum := "dfa7bbf89f40466a55c577b58862f165b9558c12aab1d78ceb6a17bba5d37787", func := "whetstone/whetstonelaw02.InstBits", spec := "instBits", unfollowed := true, recurses := true, apart := false, narrowed := true }
def InstBitsUptoSaid : Prop := instBitsUptoRow.holds Try.pinned (OpenSpec.upto instBitsSpec)

/-- 'whetstonelaw02.InstSteps', WHERE WHAT IT READS IS OF BULK AT MOST 1048576: true; the input reads as it did. -/
def instStepsUptoRow : OpenClaim := { program := "ytoabchfdbjhjcaa", sum := "dfa7bbf89f40466a55c577b58862f165b9558c12aab1d78ceb6a17bba5d37787", func := "whetstone/whetstonelaw02.InstSteps", spec := "instSteps", unfollowed := true, recurses := true, apart := false, narrowed := true }
def InstStepsUptoSaid : Prop := instStepsUptoRow.holds Try.pinned (OpenSpec.upto instStepsSpec)

/-- 'whetstonelaw02.InstTurned', WHERE WHAT IT READS IS OF BULK AT MOST 1048576: true; the input reads as it did. -/
def instTurnedUptoRow : OpenClaim := { program := "ytoabchfdbjhjcaa", sum := "dfa7bbf89f40466a55c577b58862f165b9558c12aab1d78ceb6a17bba5d37787", func := "whetstone/whetstonelaw02.InstTurned", spec := "instTurned", unfollowed := true, recurses := true, apart := false, narrowed := true }
def InstTurnedUptoSaid : Prop := instTurnedUptoRow.holds Try.pinned (OpenSpec.upto instTurnedSpec)

/-- 'whetstonelaw02.InstForms', WHERE WHAT IT READS IS OF BULK AT MOST 1048576: true; the input reads as it did. -/
def instFormsUptoRow : OpenClaim := { program := "ytoabchfdbjhjcaa", sum := "dfa7bbf89f40466a55c577b58862f165b9558c12aab1d78ceb6a17bba5d37787", func := "whetstone/whetstonelaw02.InstForms", spec := "instForms", unfollowed := true, recurses := true, apart := false, narrowed := true }
def InstFormsUptoSaid : Prop := instFormsUptoRow.holds Try.pinned (OpenSpec.upto instFormsSpec)

/-- 'whetstonelaw02.InstPlain', WHERE WHAT IT READS IS OF BULK AT MOST 1048576: true; the input reads as it did. -/
def instPlainUptoRow : OpenClaim := { program := "ytoabchfdbjhjcaa", sum := "dfa7bbf89f40466a55c577b58862f165b9558c12aab1d78ceb6a17bba5d37787", func := "whetstone/whetstonelaw02.InstPlain", spec := "instPlain", unfollowed := true, recurses := true, apart := false, narrowed := true }
def InstPlainUptoSaid : Prop := instPlainUptoRow.holds Try.pinned (OpenSpec.upto instPlainSpec)

/-- 'whetstonelaw18.GrammarCosts', WHERE WHAT IT READS IS OF BULK AT MOST 1048576: true; the input reads as it did. -/
def grammarCostsUptoRow : OpenClaim := { program := "ytoabchfdbjhjcaa", sum := "dfa7bbf89f40466a55c577b58862f165b9558c12aab1d78ceb6a17bba5d37787", func := "whetstone/whetstonelaw18.GrammarCosts", spec := "grammarCosts", unfollowed := true, recurses := true, apart := false, narrowed := true }
def GrammarCostsUptoSaid : Prop := grammarCostsUptoRow.holds Try.pinned (OpenSpec.upto grammarCostsSpec)

/-- 'whetstonelaw18.GrammarInsts', WHERE WHAT IT READS IS OF BULK AT MOST 1048576: true; the input reads as it did. -/
def grammarInstsUptoRow : OpenClaim := { program := "ytoabchfdbjhjcaa", sum := "dfa7bbf89f40466a55c577b58862f165b9558c12aab1d78ceb6a17bba5d37787", func := "whetstone/whetstonelaw18.GrammarInsts", spec := "grammarInsts", unfollowed := true, recurses := true, apart := false, narrowed := true }
def GrammarInstsUptoSaid : Prop := grammarInstsUptoRow.holds Try.pinned (OpenSpec.upto grammarInstsSpec)

/-- 'whetstonelaw18.GrammarRuns', WHERE WHAT IT READS IS OF BULK AT MOST 1048576: true; the input reads as it did. -/
def grammarRunsUptoRow : OpenClaim := { program := "ytoabchfdbjhjcaa", sum := "dfa7bbf89f40466a55c577b58862f165b9558c12aab1d78ceb6a17bba5d37787", func := "whetstone/whetstonelaw18.GrammarRuns", spec := "grammarRuns", unfollowed := true, recurses := true, apart := false, narrowed := true }
def GrammarRunsUptoSaid : Prop := grammarRunsUptoRow.holds Try.pinned (OpenSpec.upto grammarRunsSpec)

/-- 'whetstonelaw18.GrammarBig', WHERE WHAT IT READS IS OF BULK AT MOST 1048576: true; the input reads as it did. -/
def grammarBigUptoRow : OpenClaim := { program := "ytoabchfdbjhjcaa", sum := "dfa7bbf89f40466a55c577b58862f165b9558c12aab1d78ceb6a17bba5d37787", func := "whetstone/whetstonelaw18.GrammarBig", spec := "grammarBig", unfollowed := true, recurses := true, apart := false, narrowed := true }
def GrammarBigUptoSaid : Prop := grammarBigUptoRow.holds Try.pinned (OpenSpec.upto grammarBigSpec)

/-- 'whetstonelaw18.GrammarOnce', WHERE WHAT IT READS IS OF BULK AT MOST 1048576: true; the input reads as it did. -/
def grammarOnceUptoRow : OpenClaim := { program := "ytoabchfdbjhjcaa", sum := "dfa7bbf89f40466a55c577b58862f165b9558c12aab1d78ceb6a17bba5d37787", func := "whetstone/whetstonelaw18.GrammarOnce", spec := "grammarOnce", unfollowed := true, recurses := true, apart := false, narrowed := true }
def GrammarOnceUptoSaid : Prop := grammarOnceUptoRow.holds Try.pinned (OpenSpec.upto grammarOnceSpec)

/-- 'whetstonelaw18.GrammarNone', WHERE WHAT IT READS IS OF BULK AT MOST 1048576: true; the input reads as it did. -/
def grammarNoneUptoRow : OpenClaim := { program := "ytoabchfdbjhjcaa", sum := "dfa7bbf89f40466a55c577b58862f165b9558c12aab1d78ceb6a17bba5d37787", func := "whetstone/whetstonelaw18.GrammarNone", spec := "grammarNone", unfollowed := true, recurses := true, apart := false, narrowed := true }
def GrammarNoneUptoSaid : Prop := grammarNoneUptoRow.holds Try.pinned (OpenSpec.upto grammarNoneSpec)

/-- 'whetstonelaw18.GrammarTwice', WHERE WHAT IT READS IS OF BULK AT MOST 1048576: true; the input reads as it did. -/
def grammarTwiceUptoRow : OpenClaim := { program := "ytoabchfdbjhjcaa", sum := "dfa7bbf89f40466a55c577b58862f165b9558c12aab1d78ceb6a17bba5d37787", func := "whetstone/whetstonelaw18.GrammarTwice", spec := "grammarTwice", unfollowed := true, recurses := true, apart := false, narrowed := true }
def GrammarTwiceUptoSaid : Prop := grammarTwiceUptoRow.holds Try.pinned (OpenSpec.upto grammarTwiceSpec)

/-- 'whetstonelaw18.GrammarSums', WHERE WHAT IT READS IS OF BULK AT MOST 1048576: true; the input reads as it did. -/
def grammarSumsUptoRow : OpenClaim := { program := "ytoabchfdbjhjcaa", sum := "dfa7bbf89f40466a55c577b58862f165b9558c12aab1d78ceb6a17bba5d37787", func := "whetstone/whetstonelaw18.GrammarSums", spec := "grammarSums", unfollowed := true, recurses := true, apart := false, narrowed := true }
def GrammarSumsUptoSaid : Prop := grammarSumsUptoRow.holds Try.pinned (OpenSpec.upto grammarSumsSpec)

/-- 'whetstonelaw03.MemApart', WHERE WHAT IT READS IS OF BULK AT MOST 1048576: true; the input reads as it did. -/
def memApartUptoRow : OpenClaim := { program := "ytoabchfdbjhjcaa", sum := "dfa7bbf89f40466a55c577b58862f165b9558c12aab1d78ceb6a17bba5d37787", func := "whetstone/whetstonelaw03.MemApart", spec := "memApart", unfollowed := true, recurses := true, apart := false, narrowed := true }
def MemApartUptoSaid : Prop := memApartUptoRow.holds Try.pinned (OpenSpec.upto memApartSpec)

/-- 'whetstonelaw03.MemBack', WHERE WHAT IT READS IS OF BULK AT MOST 1048576: true; the input reads as it did. -/
def memBackUptoRow : OpenClaim := { program := "ytoabchfdbjhjcaa", sum := "dfa7bbf89f40466a55c577b58862f165b9558c12aab1d78ceb6a17bba5d37787", func := "whetstone/whetstonelaw03.MemBack", spec := "memBack", unfollowed := true, recurses := true, apart := false, narrowed := true }
def MemBackUptoSaid : Prop := memBackUptoRow.holds Try.pinned (OpenSpec.upto memBackSpec)

/-- 'whetstonelaw03.MemCells', WHERE WHAT IT READS IS OF BULK AT MOST 1048576: true; the input reads as it did. -/
def memCellsUptoRow : OpenClaim := { program := "ytoabchfdbjhjcaa", sum := "dfa7bbf89f40466a55c577b58862f165b9558c12aab1d78ceb6a17bba5d37787", func := "whetstone/whetstonelaw03.MemCells", spec := "memCells", unfollowed := true, recurses := true, apart := false, narrowed := true }
def MemCellsUptoSaid : Prop := memCellsUptoRow.holds Try.pinned (OpenSpec.upto memCellsSpec)

/-- 'whetstonelaw03.MemSplit', WHERE WHAT IT READS IS OF BULK AT MOST 1048576: true; the input reads as it did. -/
def memSplitUptoRow : OpenClaim := { program := "ytoabchfdbjhjcaa", sum := "dfa7bbf89f40466a55c577b58862f165b9558c12aab1d78ceb6a17bba5d37787", func := "whetstone/whetstonelaw03.MemSplit", spec := "memSplit", unfollowed := true, recurses := true, apart := false, narrowed := true }
def MemSplitUptoSaid : Prop := memSplitUptoRow.holds Try.pinned (OpenSpec.upto memSplitSpec)

/-- 'whetstonelaw03.MemDoes', WHERE WHAT IT READS IS OF BULK AT MOST 1048576: true; the input reads as it did. -/
def memDoesUptoRow : OpenClaim := { program := "ytoabchfdbjhjcaa", sum := "dfa7bbf89f40466a55c577b58862f165b9558c12aab1d78ceb6a17bba5d37787", func := "whetstone/whetstonelaw03.MemDoes", spec := "memDoes", inPlace := ["maps.clone"], unfollowed := true, recurses := true, apart := false, narrowed := true }
def MemDoesUptoSaid : Prop := memDoesUptoRow.holds Try.pinned (OpenSpec.upto memDoesSpec)

/-- 'whetstonelaw03.MemZero', WHERE WHAT IT READS IS OF BULK AT MOST 1048576: true; the input reads as it did. -/
def memZeroUptoRow : OpenClaim := { program := "ytoabchfdbjhjcaa", sum := "dfa7bbf89f40466a55c577b58862f165b9558c12aab1d78ceb6a17bba5d37787", func := "whetstone/whetstonelaw03.MemZero", spec := "memZero", inPlace := ["maps.clone"], unfollowed := true, recurses := true, apart := false, narrowed := true }
def MemZeroUptoSaid : Prop := memZeroUptoRow.holds Try.pinned (OpenSpec.upto memZeroSpec)

/-- 'whetstonelaw04.CpuDoes', WHERE WHAT IT READS IS OF BULK AT MOST 1048576: true; the input reads as it did. -/
def cpuDoesUptoRow : OpenClaim := { program := "ytoabchfdbjhjcaa", sum := "dfa7bbf89f40466a55c577b58862f165b9558c12aab1d78ceb6a17bba5d37787", func := "whetstone/whetstonelaw04.CpuDoes", spec := "cpuDoes", unfollowed := true, recurses := true, apart := false, narrowed := true }
def CpuDoesUptoSaid : Prop := cpuDoesUptoRow.holds Try.pinned (OpenSpec.upto cpuDoesSpec)

/-- 'whetstonelaw04.CpuCalls', WHERE WHAT IT READS IS OF BULK AT MOST 1048576: true; the input reads as it did. -/
def cpuCallsUptoRow : OpenClaim := { program := "ytoabchfdbjhjcaa", sum := "dfa7bbf89f40466a55c577b58862f165b9558c12aab1d78ceb6a17bba5d37787", func := "whetstone/whetstonelaw04.CpuCalls", spec := "cpuCalls", unfollowed := true, recurses := true, apart := false, narrowed := true }
def CpuCallsUptoSaid : Prop := cpuCallsUptoRow.holds Try.pinned (OpenSpec.upto cpuCallsSpec)

/-- 'whetstonelaw04.CpuStays', WHERE WHAT IT READS IS OF BULK AT MOST 1048576: true; the input reads as it did. -/
def cpuStaysUptoRow : OpenClaim := { program := "ytoabchfdbjhjcaa", sum := "dfa7bbf89f40466a55c577b58862f165b9558c12aab1d78ceb6a17bba5d37787", func := "whetstone/whetstonelaw04.CpuStays", spec := "cpuStays", unfollowed := true, recurses := true, apart := false, narrowed := true }
def CpuStaysUptoSaid : Prop := cpuStaysUptoRow.holds Try.pinned (OpenSpec.upto cpuStaysSpec)

/-- 'whetstonelaw04.CpuPlain', WHERE WHAT IT READS IS OF BULK AT MOST 1048576: true; the input reads as it did. -/
def cpuPlainUptoRow : OpenClaim := { program := "ytoabchfdbjhjcaa", sum := "dfa7bbf89f40466a55c577b58862f165b9558c12aab1d78ceb6a17bba5d37787", func := "whetstone/whetstonelaw04.CpuPlain", spec := "cpuPlain", unfollowed := true, recurses := true, apart := false, narrowed := true }
def CpuPlainUptoSaid : Prop := cpuPlainUptoRow.holds Try.pinned (OpenSpec.upto cpuPlainSpec)

/-- 'whetstonelaw04.CpuParts', WHERE WHAT IT READS IS OF BULK AT MOST 1048576: true; the input reads as it did. -/
def cpuPartsUptoRow : OpenClaim := { program := "ytoabchfdbjhjcaa", sum := "dfa7bbf89f40466a55c577b58862f165b9558c12aab1d78ceb6a17bba5d37787", func := "whetstone/whetstonelaw04.CpuParts", spec := "cpuParts", inPlace := ["maps.clone"], unfollowed := true, recurses := true, apart := false, narrowed := true }
def CpuPartsUptoSaid : Prop := cpuPartsUptoRow.holds Try.pinned (OpenSpec.upto cpuPartsSpec)

/-- 'whetstonelaw04.CpuFuel', WHERE WHAT IT READS IS OF BULK AT MOST 1048576: true; the input reads as it did. -/
def cpuFuelUptoRow : OpenClaim := { program := "ytoabchfdbjhjcaa", sum := "dfa7bbf89f40466a55c577b58862f165b9558c12aab1d78ceb6a17bba5d37787", func := "whetstone/whetstonelaw04.CpuFuel", spec := "cpuFuel", inPlace := ["maps.clone"], unfollowed := true, recurses := true, apart := false, narrowed := true }
def CpuFuelUptoSaid : Prop := cpuFuelUptoRow.holds Try.pinned (OpenSpec.upto cpuFuelSpec)

end Rows
end Go.Proofs.Ytoabchfdbjhjcaa
