/-
  No cell of these rows narrows 'for every input' (looked for: loops, veiled, ifaces, maps, wideKeys, modest, calm, conditions, laid).
  DERIVED. THE GIVEN ROWS OF THIS SEAT. 6 by the template 'for every input the law returns true; each argument reads behind the call as it read before'; 0 by the template 'total and deterministic' (their statements: YtononmcodecmaaaTotals.lean).
  GIVEN WITH THE SEED: the statements are not yours to turn. If you find one false, say at which input.
  Laid BY PROGRAM, IN A SANDBOX (cutbox-rows.mjs): the forced cells as the released guide's own fill.sh prints them over the translation 203ebc5807d26c32… (all of the seat's roots in one cut). By AI agents, Wed Nov 11 2026. No macro, syntax, notation, axiom, sorry.
-/
import Derived.Test.YtononmcodecmaaaChecked
import GoSem.Claim
import GoSem.ClaimJoined
import GoSem.ClaimMapViews
import Derived.JoinedTies
import Derived.KernelRfl
namespace Go.Proofs.Ytononmcodecmaaa
/- THE CELL 'sum', in the pinned program and in every row, IS THE sha256 OF THE DUMP (.gsa) THAT YtononmcodecmaaaProg.lean LOADS. Nothing in Lean hashes anything: it is a label: what it is worth is what the hold of that sum in a sandbox is worth. -/
noncomputable def Try.pinned : Pinned := { name := "ytononmcodecmaaa", sum := "203ebc5807d26c3274c55fa6d3ad0c80c1df3d0fd665b339de3517d95d220339", checked := Try.checked }
namespace Rows
def none {H : Type} : Left H := { results := [], args := [] }

/-- 'whetstonelaw04.CpuDoes': WHATEVER THE INPUT: true; the input reads as it did. -/
def cpuDoesSpec : ChangeSpec := { name := "cpuDoes", fn := fun _ => fun
  | [d1, d2] => { results := [.lit (.bool true)], args := [d1, d2] }
  | _ => none }
def cpuDoesRow : OpenClaim := { program := "ytononmcodecmaaa", sum := "203ebc5807d26c3274c55fa6d3ad0c80c1df3d0fd665b339de3517d95d220339", func := "whetstone/whetstonelaw04.CpuDoes", spec := "cpuDoes", unfollowed := true, recurses := true, apart := false }
def CpuDoesSaid : Prop := cpuDoesRow.holds Try.pinned (OpenSpec.ofChange cpuDoesSpec)

/-- ITS FALSE NEIGHBOUR: 'it returns false'. Refute it at one input. -/
def cpuDoesWrong : ChangeSpec := { name := "cpuDoes", fn := fun _ => fun
  | [d1, d2] => { results := [.lit (.bool false)], args := [d1, d2] }
  | _ => none }
def CpuDoesWrongFalsely : Prop := cpuDoesRow.holds Try.pinned (OpenSpec.ofChange cpuDoesWrong)

/-- 'whetstonelaw04.CpuCalls': WHATEVER THE INPUT: true; the input reads as it did. -/
def cpuCallsSpec : ChangeSpec := { name := "cpuCalls", fn := fun _ => fun
  | [d] => { results := [.lit (.bool true)], args := [d] }
  | _ => none }
def cpuCallsRow : OpenClaim := { program := "ytononmcodecmaaa", sum := "203ebc5807d26c3274c55fa6d3ad0c80c1df3d0fd665b339de3517d95d220339", func := "whetstone/whetstonelaw04.CpuCalls", spec := "cpuCalls", unfollowed := true, recurses := true, apart := false }
def CpuCallsSaid : Prop := cpuCallsRow.holds Try.pinned (OpenSpec.ofChange cpuCallsSpec)

/-- ITS FALSE NEIGHBOUR: 'it returns false'. Refute it at one input. -/
def cpuCallsWrong : ChangeSpec := { name := "cpuCalls", fn := fun _ => fun
  | [d] => { results := [.lit (.bool false)], args := [d] }
  | _ => none }
def CpuCallsWrongFalsely : Prop := cpuCallsRow.holds Try.pinned (OpenSpec.ofChange cpuCallsWrong)

/-- 'whetstonelaw04.CpuStays': WHATEVER THE INPUT: true; the input reads as it did. -/
def cpuStaysSpec : ChangeSpec := { name := "cpuStays", fn := fun _ => fun
  | [d] => { results := [.lit (.bool true)], args := [d] }
  | _ => none }
def cpuStaysRow : OpenClaim := { program := "ytononmcodecmaaa", sum := "203ebc5807d26c3274c55fa6d3ad0c80c1df3d0fd665b339de3517d95d220339", func := "whetstone/whetstonelaw04.CpuStays", spec := "cpuStays", unfollowed := true, recurses := true, apart := false }
def CpuStaysSaid : Prop := cpuStaysRow.holds Try.pinned (OpenSpec.ofChange cpuStaysSpec)

/-- ITS FALSE NEIGHBOUR: 'it returns false'. Refute it at one input. -/
def cpuStaysWrong : ChangeSpec := { name := "cpuStays", fn := fun _ => fun
  | [d] => { results := [.lit (.bool false)], args := [d] }
  | _ => none }
def CpuStaysWrongFalsely : Prop := cpuStaysRow.holds Try.pinned (OpenSpec.ofChange cpuStaysWrong)

/-- 'whetstonelaw04.CpuPlain': WHATEVER THE INPUT: true; the input reads as it did. -/
def cpuPlainSpec : ChangeSpec := { name := "cpuPlain", fn := fun _ => fun
  | [d1, d2] => { results := [.lit (.bool true)], args := [d1, d2] }
  | _ => none }
def cpuPlainRow : OpenClaim := { program := "ytononmcodecmaaa", sum := "203ebc5807d26c3274c55fa6d3ad0c80c1df3d0fd665b339de3517d95d220339", func := "whetstone/whetstonelaw04.CpuPlain", spec := "cpuPlain", unfollowed := true, recurses := true, apart := false }
def CpuPlainSaid : Prop := cpuPlainRow.holds Try.pinned (OpenSpec.ofChange cpuPlainSpec)

/-- ITS FALSE NEIGHBOUR: 'it returns false'. Refute it at one input. -/
def cpuPlainWrong : ChangeSpec := { name := "cpuPlain", fn := fun _ => fun
  | [d1, d2] => { results := [.lit (.bool false)], args := [d1, d2] }
  | _ => none }
def CpuPlainWrongFalsely : Prop := cpuPlainRow.holds Try.pinned (OpenSpec.ofChange cpuPlainWrong)

/-- 'whetstonelaw04.CpuParts': WHATEVER THE INPUT: true; the input reads as it did. -/
def cpuPartsSpec : ChangeSpec := { name := "cpuParts", fn := fun _ => fun
  | [d1, d2] => { results := [.lit (.bool true)], args := [d1, d2] }
  | _ => none }
def cpuPartsRow : OpenClaim := { program := "ytononmcodecmaaa", sum := "203ebc5807d26c3274c55fa6d3ad0c80c1df3d0fd665b339de3517d95d220339", func := "whetstone/whetstonelaw04.CpuParts", spec := "cpuParts", inPlace := ["maps.clone"], unfollowed := true, recurses := true, apart := false }
def CpuPartsSaid : Prop := cpuPartsRow.holds Try.pinned (OpenSpec.ofChange cpuPartsSpec)

/-- ITS FALSE NEIGHBOUR: 'it returns false'. Refute it at one input. -/
def cpuPartsWrong : ChangeSpec := { name := "cpuParts", fn := fun _ => fun
  | [d1, d2] => { results := [.lit (.bool false)], args := [d1, d2] }
  | _ => none }
def CpuPartsWrongFalsely : Prop := cpuPartsRow.holds Try.pinned (OpenSpec.ofChange cpuPartsWrong)

/-- 'whetstonelaw04.CpuFuel': WHATEVER THE INPUT: true; the input reads as it did. -/
def cpuFuelSpec : ChangeSpec := { name := "cpuFuel", fn := fun _ => fun
  | [d1, d2] => { results := [.lit (.bool true)], args := [d1, d2] }
  | _ => none }
def cpuFuelRow : OpenClaim := { program := "ytononmcodecmaaa", sum := "203ebc5807d26c3274c55fa6d3ad0c80c1df3d0fd665b339de3517d95d220339", func := "whetstone/whetstonelaw04.CpuFuel", spec := "cpuFuel", inPlace := ["maps.clone"], unfollowed := true, recurses := true, apart := false }
def CpuFuelSaid : Prop := cpuFuelRow.holds Try.pinned (OpenSpec.ofChange cpuFuelSpec)

/-- ITS FALSE NEIGHBOUR: 'it returns false'. Refute it at one input. -/
def cpuFuelWrong : ChangeSpec := { name := "cpuFuel", fn := fun _ => fun
  | [d1, d2] => { results := [.lit (.bool false)], args := [d1, d2] }
  | _ => none }
def CpuFuelWrongFalsely : Prop := cpuFuelRow.holds Try.pinned (OpenSpec.ofChange cpuFuelWrong)

/- THE SECOND FORM. 'bulk': how many values and letters a reading holds, each counted each time it is reached (what is shared counts as often as it is met; a slice's spare places count too). A statement '..UptoSaid' is the law's where the arguments, and the package variables that the reading takes, are together of bulk at most 1048576: NARROWER than '..Said'. Prove '..Said' where nothing that the law and all that it calls make is longer than what came in: it says more and counts as full. Else prove '..UptoSaid'. A law counts once. -/
mutual
def uptoBulk {H : Type} : DataW H → Nat
  | .lit (.string bytes) => bytes.length + 1
  | .lit _ => 1
  | .nil => 1
  | .ptr d => uptoBulk d + 1
  | .slice elems spare => uptoBulkAll elems + uptoBulkAll spare + 1
  | .agg parts => uptoBulkAll parts + 1
  | .iface _ d => uptoBulk d + 1
  | .map entries => uptoBulkEntries entries + 1
  | .held _ => 1
def uptoBulkAll {H : Type} : List (DataW H) → Nat
  | [] => 0
  | d :: r => uptoBulk d + uptoBulkAll r
def uptoBulkEntries {H : Type} : List (Lit × DataW H) → Nat
  | [] => 0
  | x :: r => uptoBulkEntry x + uptoBulkEntries r
def uptoBulkEntry {H : Type} : Lit × DataW H → Nat
  | (.string bytes, d) => bytes.length + uptoBulk d + 1
  | (_, d) => uptoBulk d + 1
 end
def uptoSmall : (H : Type) → List (DataW H) → Bool := fun _ ds => decide (uptoBulkAll ds ≤ 1048576)
def OpenSpec.upto (s : _root_.Go.ChangeSpec) : _root_.Go.OpenSpec := { _root_.Go.OpenSpec.ofChange s with cond := some uptoSmall }

/-- 'whetstonelaw04.CpuDoes', WHERE WHAT IT READS IS OF BULK AT MOST 1048576: true; the input reads as it did. -/
def cpuDoesUptoRow : OpenClaim := { program := "ytononmcodecmaaa", sum := "203ebc5807d26c3274c55fa6d3ad0c80c1df3d0fd665b339de3517d95d220339", func := "whetstone/whetstonelaw04.CpuDoes", spec := "cpuDoes", unfollowed := true, recurses := true, apart := false, narrowed := true }
def CpuDoesUptoSaid : Prop := cpuDoesUptoRow.holds Try.pinned (OpenSpec.upto cpuDoesSpec)

/-- 'whetstonelaw04.CpuCalls', WHERE WHAT IT READS IS OF BULK AT MOST 1048576: true; the input reads as it did. -/
def cpuCallsUptoRow : OpenClaim := { program := "ytononmcodecmaaa", sum := "203ebc5807d26c3274c55fa6d3ad0c80c1df3d0fd665b339de3517d95d220339", func := "whetstone/whetstonelaw04.CpuCalls", spec := "cpuCalls", unfollowed := true, recurses := true, apart := false, narrowed := true }
def CpuCallsUptoSaid : Prop := cpuCallsUptoRow.holds Try.pinned (OpenSpec.upto cpuCallsSpec)

/-- 'whetstonelaw04.CpuStays', WHERE WHAT IT READS IS OF BULK AT MOST 1048576: true; the input reads as it did. -/
def cpuStaysUptoRow : OpenClaim := { program := "ytononmcodecmaaa", sum := "203ebc5807d26c3274c55fa6d3ad0c80c1df3d0fd665b339de3517d95d220339", func := "whetstone/whetstonelaw04.CpuStays", spec := "cpuStays", unfollowed := true, recurses := true, apart := false, narrowed := true }
def CpuStaysUptoSaid : Prop := cpuStaysUptoRow.holds Try.pinned (OpenSpec.upto cpuStaysSpec)

/-- 'whetstonelaw04.CpuPlain', WHERE WHAT IT READS IS OF BULK AT MOST 1048576: true; the input reads as it did. -/
def cpuPlainUptoRow : OpenClaim := { program := "ytononmcodecmaaa", sum := "203ebc5807d26c3274c55fa6d3ad0c80c1df3d0fd665b339de3517d95d220339", func := "whetstone/whetstonelaw04.CpuPlain", spec := "cpuPlain", unfollowed := true, recurses := true, apart := false, narrowed := true }
def CpuPlainUptoSaid : Prop := cpuPlainUptoRow.holds Try.pinned (OpenSpec.upto cpuPlainSpec)

/-- 'whetstonelaw04.CpuParts', WHERE WHAT IT READS IS OF BULK AT MOST 1048576: true; the input reads as it did. -/
def cpuPartsUptoRow : OpenClaim := { program := "ytononmcodecmaaa", sum := "203ebc5807d26c3274c55fa6d3ad0c80c1df3d0fd665b339de3517d95d220339", func := "whetstone/whetstonelaw04.CpuParts", spec := "cpuParts", inPlace := ["maps.clone"], unfollowed := true, recurses := true, apart := false, narrowed := true }
def CpuPartsUptoSaid : Prop := cpuPartsUptoRow.holds Try.pinned (OpenSpec.upto cpuPartsSpec)

/-- 'whetstonelaw04.CpuFuel', WHERE WHAT IT READS IS OF BULK AT MOST 1048576: true; the input reads as it did. -/
def cpuFuelUptoRow : OpenClaim := { program := "ytononmcodecmaaa", sum := "203ebc5807d26c3274c55fa6d3ad0c80c1df3d0fd665b339de3517d95d220339", func := "whetstone/whetstonelaw04.CpuFuel", spec := "cpuFuel", inPlace := ["maps.clone"], unfollowed := true, recurses := true, apart := false, narrowed := true }
def CpuFuelUptoSaid : Prop := cpuFuelUptoRow.holds Try.pinned (OpenSpec.upto cpuFuelSpec)

end Rows
end Go.Proofs.Ytononmcodecmaaa
