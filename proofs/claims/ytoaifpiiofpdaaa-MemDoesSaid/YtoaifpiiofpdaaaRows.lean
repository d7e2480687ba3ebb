/-
  No cell of these rows narrows 'for every input' (looked for: loops, veiled, ifaces, maps, wideKeys, modest, calm, conditions, laid).
  DERIVED. THE GIVEN ROWS OF THIS SEAT. 6 by the template 'for every input the law returns true; each argument reads behind the call as it read before'; 0 by the template 'total and deterministic' (their statements: YtoaifpiiofpdaaaTotals.lean).
  GIVEN WITH THE SEED: the statements are not yours to turn. If you find one false, say at which input.
  Laid BY PROGRAM, IN A SANDBOX (cutbox-rows.mjs): the forced cells as the released guide's own fill.sh prints them over the translation 91096495f11e1e1c… (all of the seat's roots in one cut). By AI agents, Wed Nov 11 2026. No macro, syntax, notation, axiom, sorry.
-/
import Derived.Test.YtoaifpiiofpdaaaChecked
import GoSem.Claim
import GoSem.ClaimJoined
import GoSem.ClaimMapViews
import Derived.JoinedTies
import Derived.KernelRfl
namespace Go.Proofs.Ytoaifpiiofpdaaa
/- THE CELL 'sum', in the pinned program and in every row, IS THE sha256 OF THE DUMP (.gsa) THAT YtoaifpiiofpdaaaProg.lean LOADS. Nothing in Lean hashes anything: it is a label: what it is worth is what the hold of that sum in a sandbox is worth. -/
noncomputable def Try.pinned : Pinned := { name := "ytoaifpiiofpdaaa", sum := "91096495f11e1e1c2cabd8d154e092ff2c9fd408757279974efe5c510f3dfdc7", checked := Try.checked }
namespace Rows
def none {H : Type} : Left H := { results := [], args := [] }

/-- 'whetstonelaw03.MemApart': WHATEVER THE INPUT: true; the input reads as it did. -/
def memApartSpec : ChangeSpec := { name := "memApart", fn := fun _ => fun
  | [d1, d2, d3] => { results := [.lit (.bool true)], args := [d1, d2, d3] }
  | _ => none }
def memApartRow : OpenClaim := { program := "ytoaifpiiofpdaaa", sum := "91096495f11e1e1c2cabd8d154e092ff2c9fd408757279974efe5c510f3dfdc7", func := "whetstone/whetstonelaw03.MemApart", spec := "memApart", unfollowed := true, recurses := true, apart := false }
def MemApartSaid : Prop := memApartRow.holds Try.pinned (OpenSpec.ofChange memApartSpec)

/-- ITS FALSE NEIGHBOUR: 'it returns false'. Refute it at one input. -/
def memApartWrong : ChangeSpec := { name := "memApart", fn := fun _ => fun
  | [d1, d2, d3] => { results := [.lit (.bool false)], args := [d1, d2, d3] }
  | _ => none }
def MemApartWrongFalsely : Prop := memApartRow.holds Try.pinned (OpenSpec.ofChange memApartWrong)

/-- 'whetstonelaw03.MemBack': WHATEVER THE INPUT: true; the input reads as it did. -/
def memBackSpec : ChangeSpec := { name := "memBack", fn := fun _ => fun
  | [d1, d2, d3] => { results := [.lit (.bool true)], args := [d1, d2, d3] }
  | _ => none }
def memBackRow : OpenClaim := { program := "ytoaifpiiofpdaaa", sum := "91096495f11e1e1c2cabd8d154e092ff2c9fd408757279974efe5c510f3dfdc7", func := "whetstone/whetstonelaw03.MemBack", spec := "memBack", unfollowed := true, recurses := true, apart := false }
def MemBackSaid : Prop := memBackRow.holds Try.pinned (OpenSpec.ofChange memBackSpec)

/-- ITS FALSE NEIGHBOUR: 'it returns false'. Refute it at one input. -/
def memBackWrong : ChangeSpec := { name := "memBack", fn := fun _ => fun
  | [d1, d2, d3] => { results := [.lit (.bool false)], args := [d1, d2, d3] }
  | _ => none }
def MemBackWrongFalsely : Prop := memBackRow.holds Try.pinned (OpenSpec.ofChange memBackWrong)

/-- 'whetstonelaw03.MemCells': WHATEVER THE INPUT: true; the input reads as it did. -/
def memCellsSpec : ChangeSpec := { name := "memCells", fn := fun _ => fun
  | [d] => { results := [.lit (.bool true)], args := [d] }
  | _ => none }
def memCellsRow : OpenClaim := { program := "ytoaifpiiofpdaaa", sum := "91096495f11e1e1c2cabd8d154e092ff2c9fd408757279974efe5c510f3dfdc7", func := "whetstone/whetstonelaw03.MemCells", spec := "memCells", unfollowed := true, recurses := true, apart := false }
def MemCellsSaid : Prop := memCellsRow.holds Try.pinned (OpenSpec.ofChange memCellsSpec)

/-- ITS FALSE NEIGHBOUR: 'it returns false'. Refute it at one input. -/
def memCellsWrong : ChangeSpec := { name := "memCells", fn := fun _ => fun
  | [d] => { results := [.lit (.bool false)], args := [d] }
  | _ => none }
def MemCellsWrongFalsely : Prop := memCellsRow.holds Try.pinned (OpenSpec.ofChange memCellsWrong)

/-- 'whetstonelaw03.MemSplit': WHATEVER THE INPUT: true; the input reads as it did. -/
def memSplitSpec : ChangeSpec := { name := "memSplit", fn := fun _ => fun
  | [d1, d2, d3] => { results := [.lit (.bool true)], args := [d1, d2, d3] }
  | _ => none }
def memSplitRow : OpenClaim := { program := "ytoaifpiiofpdaaa", sum := "91096495f11e1e1c2cabd8d154e092ff2c9fd408757279974efe5c510f3dfdc7", func := "whetstone/whetstonelaw03.MemSplit", spec := "memSplit", unfollowed := true, recurses := true, apart := false }
def MemSplitSaid : Prop := memSplitRow.holds Try.pinned (OpenSpec.ofChange memSplitSpec)

/-- ITS FALSE NEIGHBOUR: 'it returns false'. Refute it at one input. -/
def memSplitWrong : ChangeSpec := { name := "memSplit", fn := fun _ => fun
  | [d1, d2, d3] => { results := [.lit (.bool false)], args := [d1, d2, d3] }
  | _ => none }
def MemSplitWrongFalsely : Prop := memSplitRow.holds Try.pinned (OpenSpec.ofChange memSplitWrong)

/-- 'whetstonelaw03.MemDoes': WHATEVER THE INPUT: true; the input reads as it did. -/
def memDoesSpec : ChangeSpec := { name := "memDoes", fn := fun _ => fun
  | [d] => { results := [.lit (.bool true)], args := [d] }
  | _ => none }
def memDoesRow : OpenClaim := { program := "ytoaifpiiofpdaaa", sum := "91096495f11e1e1c2cabd8d154e092ff2c9fd408757279974efe5c510f3dfdc7", func := "whetstone/whetstonelaw03.MemDoes", spec := "memDoes", inPlace := ["maps.clone"], unfollowed := true, recurses := true, apart := false }
def MemDoesSaid : Prop := memDoesRow.holds Try.pinned (OpenSpec.ofChange memDoesSpec)

/-- ITS FALSE NEIGHBOUR: 'it returns false'. Refute it at one input. -/
def memDoesWrong : ChangeSpec := { name := "memDoes", fn := fun _ => fun
  | [d] => { results := [.lit (.bool false)], args := [d] }
  | _ => none }
def MemDoesWrongFalsely : Prop := memDoesRow.holds Try.pinned (OpenSpec.ofChange memDoesWrong)

/-- 'whetstonelaw03.MemZero': WHATEVER THE INPUT: true; the input reads as it did. -/
def memZeroSpec : ChangeSpec := { name := "memZero", fn := fun _ => fun
  | [d1, d2] => { results := [.lit (.bool true)], args := [d1, d2] }
  | _ => none }
def memZeroRow : OpenClaim := { program := "ytoaifpiiofpdaaa", sum := "91096495f11e1e1c2cabd8d154e092ff2c9fd408757279974efe5c510f3dfdc7", func := "whetstone/whetstonelaw03.MemZero", spec := "memZero", inPlace := ["maps.clone"], unfollowed := true, recurses := true, apart := false }
def MemZeroSaid : Prop := memZeroRow.holds Try.pinned (OpenSpec.ofChange memZeroSpec)

/-- ITS FALSE NEIGHBOUR: 'it returns false'. Refute it at one input. -/
def memZeroWrong : ChangeSpec := { name := "memZero", fn := fun _ => fun
  | [d1, d2] => { results := [.lit (.bool false)], args := [d1, d2] }
  | _ => none }
def MemZeroWrongFalsely : Prop := memZeroRow.holds Try.pinned (OpenSpec.ofChange memZeroWrong)

/- THE SECOND FORM. 'bulk': how many values and letters a reading holds, each counted each time it is reached (what is shared counts as often as it is met; a slice's spare places count too). A statement '..UptoSaid' is the law's where the arguments, and the package variables that the reading takes, are together of bulk at most 1048576: NARROWER than '..Said'. Prove '..Said' where nothing that the law and all that it calls make is longer than what came in: it says more and counts as full. Else prove '..UptoSaid'. A law counts once. -/
mutual
def uptoBulk {H : Type} : DataW H → Nat
  | .lit (.string bytes) => bytes.length + 1
  | .lit _ => 1
  | .nil => 1
  | .ptr d => uptoBulk d + 1
  | .slice elems spare => uptoBulkAll elems + uptoBulkAll spare + 1
  | .agg parts => uptoBulkAll parts + 1
  | .iface _ d => uptoBulk d + 1
  | .map entries => uptoBulkEntries entries + 1
  | .held _ => 1
def uptoBulkAll {H : Type} : List (DataW H) → Nat
  | [] => 0
  | d :: r => uptoBulk d + uptoBulkAll r
def uptoBulkEntries {H : Type} : List (Lit × DataW H) → Nat
  | [] => 0
  | x :: r => uptoBulkEntry x + uptoBulkEntries r
def uptoBulkEntry {H : Type} : Lit × DataW H → Nat
  | (.string bytes, d) => bytes.length + uptoBulk d + 1
  | (_, d) => uptoBulk d + 1
 end
def uptoSmall : (H : Type) → List (DataW H) → Bool := fun _ ds => decide (uptoBulkAll ds ≤ 1048576)
def OpenSpec.upto (s : _root_.Go.ChangeSpec) : _root_.Go.OpenSpec := { _root_.Go.OpenSpec.ofChange s with cond := some uptoSmall }

/-- 'whetstonelaw03.MemApart', WHERE WHAT IT READS IS OF BULK AT MOST 1048576: true; the input reads as it did. -/
def memApartUptoRow : OpenClaim := { program := "ytoaifpiiofpdaaa", sum := "91096495f11e1e1c2cabd8d154e092ff2c9fd408757279974efe5c510f3dfdc7", func := "whetstone/whetstonelaw03.MemApart", spec := "memApart", unfollowed := true, recurses := true, apart := false, narrowed := true }
def MemApartUptoSaid : Prop := memApartUptoRow.holds Try.pinned (OpenSpec.upto memApartSpec)

/-- 'whetstonelaw03.MemBack', WHERE WHAT IT READS IS OF BULK AT MOST 1048576: true; the input reads as it did. -/
def memBackUptoRow : OpenClaim := { program := "ytoaifpiiofpdaaa", sum := "91096495f11e1e1c2cabd8d154e092ff2c9fd408757279974efe5c510f3dfdc7", func := "whetstone/whetstonelaw03.MemBack", spec := "memBack", unfollowed := true, recurses := true, apart := false, narrowed := true }
def MemBackUptoSaid : Prop := memBackUptoRow.holds Try.pinned (OpenSpec.upto memBackSpec)

/-- 'whetstonelaw03.MemCells', WHERE WHAT IT READS IS OF BULK AT MOST 1048576: true; the input reads as it did. -/
def memCellsUptoRow : OpenClaim := { program := "ytoaifpiiofpdaaa", sum := "91096495f11e1e1c2cabd8d154e092ff2c9fd408757279974efe5c510f3dfdc7", func := "whetstone/whetstonelaw03.MemCells", spec := "memCells", unfollowed := true, recurses := true, apart := false, narrowed := true }
def MemCellsUptoSaid : Prop := memCellsUptoRow.holds Try.pinned (OpenSpec.upto memCellsSpec)

/-- 'whetstonelaw03.MemSplit', WHERE WHAT IT READS IS OF BULK AT MOST 1048576: true; the input reads as it did. -/
def memSplitUptoRow : OpenClaim := { program := "ytoaifpiiofpdaaa", sum := "91096495f11e1e1c2cabd8d154e092ff2c9fd408757279974efe5c510f3dfdc7", func := "whetstone/whetstonelaw03.MemSplit", spec := "memSplit", unfollowed := true, recurses := true, apart := false, narrowed := true }
def MemSplitUptoSaid : Prop := memSplitUptoRow.holds Try.pinned (OpenSpec.upto memSplitSpec)

/-- 'whetstonelaw03.MemDoes', WHERE WHAT IT READS IS OF BULK AT MOST 1048576: true; the input reads as it did. -/
def memDoesUptoRow : OpenClaim := { program := "ytoaifpiiofpdaaa", sum := "91096495f11e1e1c2cabd8d154e092ff2c9fd408757279974efe5c510f3dfdc7", func := "whetstone/whetstonelaw03.MemDoes", spec := "memDoes", inPlace := ["maps.clone"], unfollowed := true, recurses := true, apart := false, narrowed := true }
def MemDoesUptoSaid : Prop := memDoesUptoRow.holds Try.pinned (OpenSpec.upto memDoesSpec)

/-- 'whetstonelaw03.MemZero', WHERE WHAT IT READS IS OF BULK AT MOST 1048576: true; the input reads as it did. -/
def memZeroUptoRow : OpenClaim := { program := "ytoaifpiiofpdaaa", sum := "91096495f11e1e1c2cabd8d154e092ff2c9fd408757279974efe5c510f3dfdc7", func := "whetstone/whetstonelaw03.MemZero", spec := "memZero", inPlace := ["maps.clone"], unfollowed := true, recurses := true, apart := false, narrowed := true }
def MemZeroUptoSaid : Prop := memZeroUptoRow.holds Try.pinned (OpenSpec.upto memZeroSpec)

end Rows
end Go.Proofs.Ytoaifpiiofpdaaa
