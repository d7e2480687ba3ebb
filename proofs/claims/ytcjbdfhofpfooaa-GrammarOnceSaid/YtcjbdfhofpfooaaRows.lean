/-
  No cell of these rows narrows 'for every input' (looked for: loops, veiled, ifaces, maps, wideKeys, modest, calm, conditions, laid).
  DERIVED. THE GIVEN ROWS OF THIS SEAT. 8 by the template 'for every input the law returns true; each argument reads behind the call as it read before'; 0 by the template 'total and deterministic' (their statements: YtcjbdfhofpfooaaTotals.lean).
  GIVEN WITH THE SEED: the statements are not yours to turn. If you find one false, say at which input.
  Laid BY PROGRAM, IN A SANDBOX (cutbox-rows.mjs): the forced cells as the released guide's own fill.sh prints them over the translation 9ae6211ff1a6719d… (all of the seat's roots in one cut). By AI agents, Wed Nov 11 2026. No macro, syntax, notation, axiom, sorry.
-/
import Derived.Test.YtcjbdfhofpfooaaChecked
import GoSem.Claim
import GoSem.ClaimJoined
import GoSem.ClaimMapViews
import Derived.JoinedTies
import Derived.KernelRfl
namespace Go.Proofs.Ytcjbdfhofpfooaa
/- THE CELL 'sum', in the pinned program and in every row, IS THE sha256 OF THE DUMP (.gsa) THAT YtcjbdfhofpfooaaProg.lean LOADS. Nothing in Lean hashes anything: it is a label: what it is worth is what the hold of that sum in a sandbox is worth. -/
noncomputable def Try.pinned : Pinned := { name := "ytcjbdfhofpfooaa", sum := "9ae6211ff1a6719de34f24e6a98e06562267bba5c0e83054ea554cf4bf86f656", checked := Try.checked }
namespace Rows
def none {H : Type} : Left H := { results := [], args := [] }

/-- 'whetstonelaw18.GrammarCosts': WHATEVER THE INPUT: true; the input reads as it did. -/
def grammarCostsSpec : ChangeSpec := { name := "grammarCosts", fn := fun _ => fun
  | [d] => { results := [.lit (.bool true)], args := [d] }
  | _ => none }
def grammarCostsRow : OpenClaim := { program := "ytcjbdfhofpfooaa", sum := "9ae6211ff1a6719de34f24e6a98e06562267bba5c0e83054ea554cf4bf86f656", func := "whetstone/whetstonelaw18.GrammarCosts", spec := "grammarCosts", unfollowed := true, recurses := true, apart := false }
def GrammarCostsSaid : Prop := grammarCostsRow.holds Try.pinned (OpenSpec.ofChange grammarCostsSpec)

/-- ITS FALSE NEIGHBOUR: 'it returns false'. Refute it at one input. -/
def grammarCostsWrong : ChangeSpec := { name := "grammarCosts", fn := fun _ => fun
  | [d] => { results := [.lit (.bool false)], args := [d] }
  | _ => none }
def GrammarCostsWrongFalsely : Prop := grammarCostsRow.holds Try.pinned (OpenSpec.ofChange grammarCostsWrong)

/-- 'whetstonelaw18.GrammarInsts': WHATEVER THE INPUT: true; the input reads as it did. -/
def grammarInstsSpec : ChangeSpec := { name := "grammarInsts", fn := fun _ => fun
  | [d] => { results := [.lit (.bool true)], args := [d] }
  | _ => none }
def grammarInstsRow : OpenClaim := { program := "ytcjbdfhofpfooaa", sum := "9ae6211ff1a6719de34f24e6a98e06562267bba5c0e83054ea554cf4bf86f656", func := "whetstone/whetstonelaw18.GrammarInsts", spec := "grammarInsts", unfollowed := true, recurses := true, apart := false }
def GrammarInstsSaid : Prop := grammarInstsRow.holds Try.pinned (OpenSpec.ofChange grammarInstsSpec)

/-- ITS FALSE NEIGHBOUR: 'it returns false'. Refute it at one input. -/
def grammarInstsWrong : ChangeSpec := { name := "grammarInsts", fn := fun _ => fun
  | [d] => { results := [.lit (.bool false)], args := [d] }
  | _ => none }
def GrammarInstsWrongFalsely : Prop := grammarInstsRow.holds Try.pinned (OpenSpec.ofChange grammarInstsWrong)

/-- 'whetstonelaw18.GrammarRuns': WHATEVER THE INPUT: true; the input reads as it did. -/
def grammarRunsSpec : ChangeSpec := { name := "grammarRuns", fn := fun _ => fun
  | [d1, d2] => { results := [.lit (.bool true)], args := [d1, d2] }
  | _ => none }
def grammarRunsRow : OpenClaim := { program := "ytcjbdfhofpfooaa", sum := "9ae6211ff1a6719de34f24e6a98e06562267bba5c0e83054ea554cf4bf86f656", func := "whetstone/whetstonelaw18.GrammarRuns", spec := "grammarRuns", unfollowed := true, recurses := true, apart := false }
def GrammarRunsSaid : Prop := grammarRunsRow.holds Try.pinned (OpenSpec.ofChange grammarRunsSpec)

/-- ITS FALSE NEIGHBOUR: 'it returns false'. Refute it at one input. -/
def grammarRunsWrong : ChangeSpec := { name := "grammarRuns", fn := fun _ => fun
  | [d1, d2] => { results := [.lit (.bool false)], args := [d1, d2] }
  | _ => none }
def GrammarRunsWrongFalsely : Prop := grammarRunsRow.holds Try.pinned (OpenSpec.ofChange grammarRunsWrong)

/-- 'whetstonelaw18.GrammarBig': WHATEVER THE INPUT: true; the input reads as it did. -/
def grammarBigSpec : ChangeSpec := { name := "grammarBig", fn := fun _ => fun
  | [d] => { results := [.lit (.bool true)], args := [d] }
  | _ => none }
def grammarBigRow : OpenClaim := { program := "ytcjbdfhofpfooaa", sum := "9ae6211ff1a6719de34f24e6a98e06562267bba5c0e83054ea554cf4bf86f656", func := "whetstone/whetstonelaw18.GrammarBig", spec := "grammarBig", unfollowed := true, recurses := true, apart := false }
def GrammarBigSaid : Prop := grammarBigRow.holds Try.pinned (OpenSpec.ofChange grammarBigSpec)

/-- ITS FALSE NEIGHBOUR: 'it returns false'. Refute it at one input. -/
def grammarBigWrong : ChangeSpec := { name := "grammarBig", fn := fun _ => fun
  | [d] => { results := [.lit (.bool false)], args := [d] }
  | _ => none }
def GrammarBigWrongFalsely : Prop := grammarBigRow.holds Try.pinned (OpenSpec.ofChange grammarBigWrong)

/-- 'whetstonelaw18.GrammarOnce': WHATEVER THE INPUT: true; the input reads as it did. -/
def grammarOnceSpec : ChangeSpec := { name := "grammarOnce", fn := fun _ => fun
  | [d1, d2] => { results := [.lit (.bool true)], args := [d1, d2] }
  | _ => none }
def grammarOnceRow : OpenClaim := { program := "ytcjbdfhofpfooaa", sum := "9ae6211ff1a6719de34f24e6a98e06562267bba5c0e83054ea554cf4bf86f656", func := "whetstone/whetstonelaw18.GrammarOnce", spec := "grammarOnce", unfollowed := true, recurses := true, apart := false }
def GrammarOnceSaid : Prop := grammarOnceRow.holds Try.pinned (OpenSpec.ofChange grammarOnceSpec)

/-- ITS FALSE NEIGHBOUR: 'it returns false'. Refute it at one input. -/
def grammarOnceWrong : ChangeSpec := { name := "grammarOnce", fn := fun _ => fun
  | [d1, d2] => { results := [.lit (.bool false)], args := [d1, d2] }
  | _ => none }
def GrammarOnceWrongFalsely : Prop := grammarOnceRow.holds Try.pinned (OpenSpec.ofChange grammarOnceWrong)

/-- 'whetstonelaw18.GrammarNone': WHATEVER THE INPUT: true; the input reads as it did. -/
def grammarNoneSpec : ChangeSpec := { name := "grammarNone", fn := fun _ => fun
  | [d1, d2] => { results := [.lit (.bool true)], args := [d1, d2] }
  | _ => none }
def grammarNoneRow : OpenClaim := { program := "ytcjbdfhofpfooaa", sum := "9ae6211ff1a6719de34f24e6a98e06562267bba5c0e83054ea554cf4bf86f656", func := "whetstone/whetstonelaw18.GrammarNone", spec := "grammarNone", unfollowed := true, recurses := true, apart := false }
def GrammarNoneSaid : Prop := grammarNoneRow.holds Try.pinned (OpenSpec.ofChange grammarNoneSpec)

/-- ITS FALSE NEIGHBOUR: 'it returns false'. Refute it at one input. -/
def grammarNoneWrong : ChangeSpec := { name := "grammarNone", fn := fun _ => fun
  | [d1, d2] => { results := [.lit (.bool false)], args := [d1, d2] }
  | _ => none }
def GrammarNoneWrongFalsely : Prop := grammarNoneRow.holds Try.pinned (OpenSpec.ofChange grammarNoneWrong)

/-- 'whetstonelaw18.GrammarTwice': WHATEVER THE INPUT: true; the input reads as it did. -/
def grammarTwiceSpec : ChangeSpec := { name := "grammarTwice", fn := fun _ => fun
  | [d1, d2, d3] => { results := [.lit (.bool true)], args := [d1, d2, d3] }
  | _ => none }
def grammarTwiceRow : OpenClaim := { program := "ytcjbdfhofpfooaa", sum := "9ae6211ff1a6719de34f24e6a98e06562267bba5c0e83054ea554cf4bf86f656", func := "whetstone/whetstonelaw18.GrammarTwice", spec := "grammarTwice", unfollowed := true, recurses := true, apart := false }
def GrammarTwiceSaid : Prop := grammarTwiceRow.holds Try.pinned (OpenSpec.ofChange grammarTwiceSpec)

/-- ITS FALSE NEIGHBOUR: 'it returns false'. Refute it at one input. -/
def grammarTwiceWrong : ChangeSpec := { name := "grammarTwice", fn := fun _ => fun
  | [d1, d2, d3] => { results := [.lit (.bool false)], args := [d1, d2, d3] }
  | _ => none }
def GrammarTwiceWrongFalsely : Prop := grammarTwiceRow.holds Try.pinned (OpenSpec.ofChange grammarTwiceWrong)

/-- 'whetstonelaw18.GrammarSums': WHATEVER THE INPUT: true; the input reads as it did. -/
def grammarSumsSpec : ChangeSpec := { name := "grammarSums", fn := fun _ => fun
  | [d1, d2] => { results := [.lit (.bool true)], args := [d1, d2] }
  | _ => none }
def grammarSumsRow : OpenClaim := { program := "ytcjbdfhofpfooaa", sum := "9ae6211ff1a6719de34f24e6a98e06562267bba5c0e83054ea554cf4bf86f656", func := "whetstone/whetstonelaw18.GrammarSums", spec := "grammarSums", unfollowed := true, recurses := true, apart := false }
def GrammarSumsSaid : Prop := grammarSumsRow.holds Try.pinned (OpenSpec.ofChange grammarSumsSpec)

/-- ITS FALSE NEIGHBOUR: 'it returns false'. Refute it at one input. -/
def grammarSumsWrong : ChangeSpec := { name := "grammarSums", fn := fun _ => fun
  | [d1, d2] => { results := [.lit (.bool false)], args := [d1, d2] }
  | _ => none }
def GrammarSumsWrongFalsely : Prop := grammarSumsRow.holds Try.pinned (OpenSpec.ofChange grammarSumsWrong)

/- THE SECOND FORM. 'bulk': how many values and letters a reading holds, each counted each time it is reached (what is shared counts as often as it is met; a slice's spare places count too). A statement '..UptoSaid' is the law's where the arguments, and the package variables that the reading takes, are together of bulk at most 1048576: NARROWER than '..Said'. Prove '..Said' where nothing that the law and all that it calls make is longer than what came in: it says more and counts as full. Else prove '..UptoSaid'. A law counts once. -/
mutual
def uptoBulk {H : Type} : DataW H → Nat
  | .lit (.string bytes) => bytes.length + 1
  | .lit _ => 1
  | .nil => 1
  | .ptr d => uptoBulk d + 1
  | .slice elems spare => uptoBulkAll elems + uptoBulkAll spare + 1
  | .agg parts => uptoBulkAll parts + 1
  | .iface _ d => uptoBulk d + 1
  | .map entries => uptoBulkEntries entries + 1
  | .held _ => 1
def uptoBulkAll {H : Type} : List (DataW H) → Nat
  | [] => 0
  | d :: r => uptoBulk d + uptoBulkAll r
def uptoBulkEntries {H : Type} : List (Lit × DataW H) → Nat
  | [] => 0
  | x :: r => uptoBulkEntry x + uptoBulkEntries r
def uptoBulkEntry {H : Type} : Lit × DataW H → Nat
  | (.string bytes, d) => bytes.length + uptoBulk d + 1
  | (_, d) => uptoBulk d + 1
 end
def uptoSmall : (H : Type) → List (DataW H) → Bool := fun _ ds => decide (uptoBulkAll ds ≤ 1048576)
def OpenSpec.upto (s : _root_.Go.ChangeSpec) : _root_.Go.OpenSpec := { _root_.Go.OpenSpec.ofChange s with cond := some uptoSmall }

/-- 'whetstonelaw18.GrammarCosts', WHERE WHAT IT READS IS OF BULK AT MOST 1048576: true; the input reads as it did. -/
def grammarCostsUptoRow : OpenClaim := { program := "ytcjbdfhofpfooaa", sum := "9ae6211ff1a6719de34f24e6a98e06562267bba5c0e83054ea554cf4bf86f656", func := "whetstone/whetstonelaw18.GrammarCosts", spec := "grammarCosts", unfollowed := true, recurses := true, apart := false, narrowed := true }
def GrammarCostsUptoSaid : Prop := grammarCostsUptoRow.holds Try.pinned (OpenSpec.upto grammarCostsSpec)

/-- 'whetstonelaw18.GrammarInsts', WHERE WHAT IT READS IS OF BULK AT MOST 1048576: true; the input reads as it did. -/
def grammarInstsUptoRow : OpenClaim := { program := "ytcjbdfhofpfooaa", sum := "9ae6211ff1a6719de34f24e6a98e06562267bba5c0e83054ea554cf4bf86f656", func := "whetstone/whetstonelaw18.GrammarInsts", spec := "grammarInsts", unfollowed := true, recurses := true, apart := false, narrowed := true }
def GrammarInstsUptoSaid : Prop := grammarInstsUptoRow.holds Try.pinned (OpenSpec.upto grammarInstsSpec)

/-- 'whetstonelaw18.GrammarRuns', WHERE WHAT IT READS IS OF BULK AT MOST 1048576: true; the input reads as it did. -/
def grammarRunsUptoRow : OpenClaim := { program := "ytcjbdfhofpfooaa", sum := "9ae6211ff1a6719de34f24e6a98e06562267bba5c0e83054ea554cf4bf86f656", func := "whetstone/whetstonelaw18.GrammarRuns", spec := "grammarRuns", unfollowed := true, recurses := true, apart := false, narrowed := true }
def GrammarRunsUptoSaid : Prop := grammarRunsUptoRow.holds Try.pinned (OpenSpec.upto grammarRunsSpec)

/-- 'whetstonelaw18.GrammarBig', WHERE WHAT IT READS IS OF BULK AT MOST 1048576: true; the input reads as it did. -/
def grammarBigUptoRow : OpenClaim := { program := "ytcjbdfhofpfooaa", sum := "9ae6211ff1a6719de34f24e6a98e06562267bba5c0e83054ea554cf4bf86f656", func := "whetstone/whetstonelaw18.GrammarBig", spec := "grammarBig", unfollowed := true, recurses := true, apart := false, narrowed := true }
def GrammarBigUptoSaid : Prop := grammarBigUptoRow.holds Try.pinned (OpenSpec.upto grammarBigSpec)

/-- 'whetstonelaw18.GrammarOnce', WHERE WHAT IT READS IS OF BULK AT MOST 1048576: true; the input reads as it did. -/
def grammarOnceUptoRow : OpenClaim := { program := "ytcjbdfhofpfooaa", sum := "9ae6211ff1a6719de34f24e6a98e06562267bba5c0e83054ea554cf4bf86f656", func := "whetstone/whetstonelaw18.GrammarOnce", spec := "grammarOnce", unfollowed := true, recurses := true, apart := false, narrowed := true }
def GrammarOnceUptoSaid : Prop := grammarOnceUptoRow.holds Try.pinned (OpenSpec.upto grammarOnceSpec)

/-- 'whetstonelaw18.GrammarNone', WHERE WHAT IT READS IS OF BULK AT MOST 1048576: true; the input reads as it did. -/
def grammarNoneUptoRow : OpenClaim := { program := "ytcjbdfhofpfooaa", sum := "9ae6211ff1a6719de34f24e6a98e06562267bba5c0e83054ea554cf4bf86f656", func := "whetstone/whetstonelaw18.GrammarNone", spec := "grammarNone", unfollowed := true, recurses := true, apart := false, narrowed := true }
def GrammarNoneUptoSaid : Prop := grammarNoneUptoRow.holds Try.pinned (OpenSpec.upto grammarNoneSpec)

/-- 'whetstonelaw18.GrammarTwice', WHERE WHAT IT READS IS OF BULK AT MOST 1048576: true; the input reads as it did. -/
def grammarTwiceUptoRow : OpenClaim := { program := "ytcjbdfhofpfooaa", sum := "9ae6211ff1a6719de34f24e6a98e06562267bba5c0e83054ea554cf4bf86f656", func := "whetstone/whetstonelaw18.GrammarTwice", spec := "grammarTwice", unfollowed := true, recurses := true, apart := false, narrowed := true }
def GrammarTwiceUptoSaid : Prop := grammarTwiceUptoRow.holds Try.pinned (OpenSpec.upto grammarTwiceSpec)

/-- 'whetstonelaw18.GrammarSums', WHERE WHAT IT READS IS OF BULK AT MOST 1048576: true; the input reads as it did. -/
def grammarSumsUptoRow : OpenClaim := { program := "ytcjbdfhofpfooaa", sum := "9ae6211ff1a6719de34f24e6a98e06562267bba5c0e83054ea554cf4bf86f656", func := "whetstone/whetstonelaw18.GrammarSums", spec := "grammarSums", unfollowed := true, recurses := true, apart := false, narrowed := true }
def GrammarSumsUptoSaid : Prop := grammarSumsUptoRow.holds Try.pinned (OpenSpec.upto grammarSumsSpec)

end Rows
end Go.Proofs.Ytcjbdfhofpfooaa
