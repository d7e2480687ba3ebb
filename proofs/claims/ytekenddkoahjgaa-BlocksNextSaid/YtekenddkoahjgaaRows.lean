/-
  No cell of these rows narrows 'for every input' (looked for: loops, veiled, ifaces, maps, wideKeys, modest, calm, conditions, laid).
  DERIVED. THE GIVEN ROWS OF THIS SEAT. 8 by the template 'for every input the law returns true; each argument reads behind the call as it read before'; 0 by the template 'total and deterministic' (their statements: YtekenddkoahjgaaTotals.lean).
  GIVEN WITH THE SEED: the statements are not yours to turn. If you find one false, say at which input.
  Laid BY PROGRAM, IN A SANDBOX (cutbox-rows.mjs): the forced cells as the released guide's own fill.sh prints them over the translation 2154106f822e4e8a… (all of the seat's roots in one cut). By AI agents, Wed Nov 11 2026. No macro, syntax, notation, axiom, sorry.
-/
import Derived.Test.YtekenddkoahjgaaChecked
import GoSem.Claim
import GoSem.ClaimJoined
import GoSem.ClaimMapViews
import Derived.JoinedTies
import Derived.KernelRfl
namespace Go.Proofs.Ytekenddkoahjgaa
/- THE CELL 'sum', in the pinned program and in every row, IS THE sha256 OF THE DUMP (.gsa) THAT YtekenddkoahjgaaProg.lean LOADS. Nothing in Lean hashes anything: it is a label: what it is worth is what the hold of that sum in a sandbox is worth. -/
noncomputable def Try.pinned : Pinned := { name := "ytekenddkoahjgaa", sum := "2154106f822e4e8aa83c1bcaefc3029e5809510014626977142138f66e44f469", checked := Try.checked }
namespace Rows
def none {H : Type} : Left H := { results := [], args := [] }

/-- 'whetstonelaw08.BlocksAfter': WHATEVER THE INPUT: true; the input reads as it did. -/
def blocksAfterSpec : ChangeSpec := { name := "blocksAfter", fn := fun _ => fun
  | [d1, d2] => { results := [.lit (.bool true)], args := [d1, d2] }
  | _ => none }
def blocksAfterRow : OpenClaim := { program := "ytekenddkoahjgaa", sum := "2154106f822e4e8aa83c1bcaefc3029e5809510014626977142138f66e44f469", func := "whetstone/whetstonelaw08.BlocksAfter", spec := "blocksAfter", unfollowed := true, recurses := true, apart := false }
def BlocksAfterSaid : Prop := blocksAfterRow.holds Try.pinned (OpenSpec.ofChange blocksAfterSpec)

/-- ITS FALSE NEIGHBOUR: 'it returns false'. Refute it at one input. -/
def blocksAfterWrong : ChangeSpec := { name := "blocksAfter", fn := fun _ => fun
  | [d1, d2] => { results := [.lit (.bool false)], args := [d1, d2] }
  | _ => none }
def BlocksAfterWrongFalsely : Prop := blocksAfterRow.holds Try.pinned (OpenSpec.ofChange blocksAfterWrong)

/-- 'whetstonelaw08.BlocksFind': WHATEVER THE INPUT: true; the input reads as it did. -/
def blocksFindSpec : ChangeSpec := { name := "blocksFind", fn := fun _ => fun
  | [d1, d2] => { results := [.lit (.bool true)], args := [d1, d2] }
  | _ => none }
def blocksFindRow : OpenClaim := { program := "ytekenddkoahjgaa", sum := "2154106f822e4e8aa83c1bcaefc3029e5809510014626977142138f66e44f469", func := "whetstone/whetstonelaw08.BlocksFind", spec := "blocksFind", unfollowed := true, recurses := true, apart := false }
def BlocksFindSaid : Prop := blocksFindRow.holds Try.pinned (OpenSpec.ofChange blocksFindSpec)

/-- ITS FALSE NEIGHBOUR: 'it returns false'. Refute it at one input. -/
def blocksFindWrong : ChangeSpec := { name := "blocksFind", fn := fun _ => fun
  | [d1, d2] => { results := [.lit (.bool false)], args := [d1, d2] }
  | _ => none }
def BlocksFindWrongFalsely : Prop := blocksFindRow.holds Try.pinned (OpenSpec.ofChange blocksFindWrong)

/-- 'whetstonelaw08.BlocksNext': WHATEVER THE INPUT: true; the input reads as it did. -/
def blocksNextSpec : ChangeSpec := { name := "blocksNext", fn := fun _ => fun
  | [d1, d2, d3] => { results := [.lit (.bool true)], args := [d1, d2, d3] }
  | _ => none }
def blocksNextRow : OpenClaim := { program := "ytekenddkoahjgaa", sum := "2154106f822e4e8aa83c1bcaefc3029e5809510014626977142138f66e44f469", func := "whetstone/whetstonelaw08.BlocksNext", spec := "blocksNext", unfollowed := true, recurses := true, apart := false }
def BlocksNextSaid : Prop := blocksNextRow.holds Try.pinned (OpenSpec.ofChange blocksNextSpec)

/-- ITS FALSE NEIGHBOUR: 'it returns false'. Refute it at one input. -/
def blocksNextWrong : ChangeSpec := { name := "blocksNext", fn := fun _ => fun
  | [d1, d2, d3] => { results := [.lit (.bool false)], args := [d1, d2, d3] }
  | _ => none }
def BlocksNextWrongFalsely : Prop := blocksNextRow.holds Try.pinned (OpenSpec.ofChange blocksNextWrong)

/-- 'whetstonelaw08.BlocksWhole': WHATEVER THE INPUT: true; the input reads as it did. -/
def blocksWholeSpec : ChangeSpec := { name := "blocksWhole", fn := fun _ => fun
  | [d1, d2] => { results := [.lit (.bool true)], args := [d1, d2] }
  | _ => none }
def blocksWholeRow : OpenClaim := { program := "ytekenddkoahjgaa", sum := "2154106f822e4e8aa83c1bcaefc3029e5809510014626977142138f66e44f469", func := "whetstone/whetstonelaw08.BlocksWhole", spec := "blocksWhole", unfollowed := true, recurses := true, apart := false }
def BlocksWholeSaid : Prop := blocksWholeRow.holds Try.pinned (OpenSpec.ofChange blocksWholeSpec)

/-- ITS FALSE NEIGHBOUR: 'it returns false'. Refute it at one input. -/
def blocksWholeWrong : ChangeSpec := { name := "blocksWhole", fn := fun _ => fun
  | [d1, d2] => { results := [.lit (.bool false)], args := [d1, d2] }
  | _ => none }
def BlocksWholeWrongFalsely : Prop := blocksWholeRow.holds Try.pinned (OpenSpec.ofChange blocksWholeWrong)

/-- 'whetstonelaw08.BlocksMore': WHATEVER THE INPUT: true; the input reads as it did. -/
def blocksMoreSpec : ChangeSpec := { name := "blocksMore", fn := fun _ => fun
  | [d1, d2, d3] => { results := [.lit (.bool true)], args := [d1, d2, d3] }
  | _ => none }
def blocksMoreRow : OpenClaim := { program := "ytekenddkoahjgaa", sum := "2154106f822e4e8aa83c1bcaefc3029e5809510014626977142138f66e44f469", func := "whetstone/whetstonelaw08.BlocksMore", spec := "blocksMore", unfollowed := true, recurses := true, apart := false }
def BlocksMoreSaid : Prop := blocksMoreRow.holds Try.pinned (OpenSpec.ofChange blocksMoreSpec)

/-- ITS FALSE NEIGHBOUR: 'it returns false'. Refute it at one input. -/
def blocksMoreWrong : ChangeSpec := { name := "blocksMore", fn := fun _ => fun
  | [d1, d2, d3] => { results := [.lit (.bool false)], args := [d1, d2, d3] }
  | _ => none }
def BlocksMoreWrongFalsely : Prop := blocksMoreRow.holds Try.pinned (OpenSpec.ofChange blocksMoreWrong)

/-- 'whetstonelaw08.BlocksGo': WHATEVER THE INPUT: true; the input reads as it did. -/
def blocksGoSpec : ChangeSpec := { name := "blocksGo", fn := fun _ => fun
  | [d1, d2] => { results := [.lit (.bool true)], args := [d1, d2] }
  | _ => none }
def blocksGoRow : OpenClaim := { program := "ytekenddkoahjgaa", sum := "2154106f822e4e8aa83c1bcaefc3029e5809510014626977142138f66e44f469", func := "whetstone/whetstonelaw08.BlocksGo", spec := "blocksGo", unfollowed := true, recurses := true, apart := false }
def BlocksGoSaid : Prop := blocksGoRow.holds Try.pinned (OpenSpec.ofChange blocksGoSpec)

/-- ITS FALSE NEIGHBOUR: 'it returns false'. Refute it at one input. -/
def blocksGoWrong : ChangeSpec := { name := "blocksGo", fn := fun _ => fun
  | [d1, d2] => { results := [.lit (.bool false)], args := [d1, d2] }
  | _ => none }
def BlocksGoWrongFalsely : Prop := blocksGoRow.holds Try.pinned (OpenSpec.ofChange blocksGoWrong)

/-- 'whetstonelaw08.BlocksAlone': WHATEVER THE INPUT: true; the input reads as it did. -/
def blocksAloneSpec : ChangeSpec := { name := "blocksAlone", fn := fun _ => fun
  | [d1, d2] => { results := [.lit (.bool true)], args := [d1, d2] }
  | _ => none }
def blocksAloneRow : OpenClaim := { program := "ytekenddkoahjgaa", sum := "2154106f822e4e8aa83c1bcaefc3029e5809510014626977142138f66e44f469", func := "whetstone/whetstonelaw08.BlocksAlone", spec := "blocksAlone", unfollowed := true, recurses := true, apart := false }
def BlocksAloneSaid : Prop := blocksAloneRow.holds Try.pinned (OpenSpec.ofChange blocksAloneSpec)

/-- ITS FALSE NEIGHBOUR: 'it returns false'. Refute it at one input. -/
def blocksAloneWrong : ChangeSpec := { name := "blocksAlone", fn := fun _ => fun
  | [d1, d2] => { results := [.lit (.bool false)], args := [d1, d2] }
  | _ => none }
def BlocksAloneWrongFalsely : Prop := blocksAloneRow.holds Try.pinned (OpenSpec.ofChange blocksAloneWrong)

/-- 'whetstonelaw08.BlocksLoops': WHATEVER THE INPUT: true; the input reads as it did. -/
def blocksLoopsSpec : ChangeSpec := { name := "blocksLoops", fn := fun _ => fun
  | [d] => { results := [.lit (.bool true)], args := [d] }
  | _ => none }
def blocksLoopsRow : OpenClaim := { program := "ytekenddkoahjgaa", sum := "2154106f822e4e8aa83c1bcaefc3029e5809510014626977142138f66e44f469", func := "whetstone/whetstonelaw08.BlocksLoops", spec := "blocksLoops", unfollowed := true, recurses := true, apart := false }
def BlocksLoopsSaid : Prop := blocksLoopsRow.holds Try.pinned (OpenSpec.ofChange blocksLoopsSpec)

/-- ITS FALSE NEIGHBOUR: 'it returns false'. Refute it at one input. -/
def blocksLoopsWrong : ChangeSpec := { name := "blocksLoops", fn := fun _ => fun
  | [d] => { results := [.lit (.bool false)], args := [d] }
  | _ => none }
def BlocksLoopsWrongFalsely : Prop := blocksLoopsRow.holds Try.pinned (OpenSpec.ofChange blocksLoopsWrong)

/- THE SECOND FORM. 'bulk': how many values and letters a reading holds, each counted each time it is reached (what is shared counts as often as it is met; a slice's spare places count too). A statement '..UptoSaid' is the law's where the arguments, and the package variables that the reading takes, are together of bulk at most 1048576: NARROWER than '..Said'. Prove '..Said' where nothing that the law and all that it calls make is longer than what came in: it says more and counts as full. Else prove '..UptoSaid'. A law counts once. -/
mutual
def uptoBulk {H : Type} : DataW H → Nat
  | .lit (.string bytes) => bytes.length + 1
  | .lit _ => 1
  | .nil => 1
  | .ptr d => uptoBulk d + 1
  | .slice elems spare => uptoBulkAll elems + uptoBulkAll spare + 1
  | .agg parts => uptoBulkAll parts + 1
  | .iface _ d => uptoBulk d + 1
  | .map entries => uptoBulkEntries entries + 1
  | .held _ => 1
def uptoBulkAll {H : Type} : List (DataW H) → Nat
  | [] => 0
  | d :: r => uptoBulk d + uptoBulkAll r
def uptoBulkEntries {H : Type} : List (Lit × DataW H) → Nat
  | [] => 0
  | x :: r => uptoBulkEntry x + uptoBulkEntries r
def uptoBulkEntry {H : Type} : Lit × DataW H → Nat
  | (.string bytes, d) => bytes.length + uptoBulk d + 1
  | (_, d) => uptoBulk d + 1
 end
def uptoSmall : (H : Type) → List (DataW H) → Bool := fun _ ds => decide (uptoBulkAll ds ≤ 1048576)
def OpenSpec.upto (s : _root_.Go.ChangeSpec) : _root_.Go.OpenSpec := { _root_.Go.OpenSpec.ofChange s with cond := some uptoSmall }

/-- 'whetstonelaw08.BlocksAfter', WHERE WHAT IT READS IS OF BULK AT MOST 1048576: true; the input reads as it did. -/
def blocksAfterUptoRow : OpenClaim := { program := "ytekenddkoahjgaa", sum := "2154106f822e4e8aa83c1bcaefc3029e5809510014626977142138f66e44f469", func := "whetstone/whetstonelaw08.BlocksAfter", spec := "blocksAfter", unfollowed := true, recurses := true, apart := false, narrowed := true }
def BlocksAfterUptoSaid : Prop := blocksAfterUptoRow.holds Try.pinned (OpenSpec.upto blocksAfterSpec)

/-- 'whetstonelaw08.BlocksFind', WHERE WHAT IT READS IS OF BULK AT MOST 1048576: true; the input reads as it did. -/
def blocksFindUptoRow : OpenClaim := { program := "ytekenddkoahjgaa", sum := "2154106f822e4e8aa83c1bcaefc3029e5809510014626977142138f66e44f469", func := "whetstone/whetstonelaw08.BlocksFind", spec := "blocksFind", unfollowed := true, recurses := true, apart := false, narrowed := true }
def BlocksFindUptoSaid : Prop := blocksFindUptoRow.holds Try.pinned (OpenSpec.upto blocksFindSpec)

/-- 'whetstonelaw08.BlocksNext', WHERE WHAT IT READS IS OF BULK AT MOST 1048576: true; the input reads as it did. -/
def blocksNextUptoRow : OpenClaim := { program := "ytekenddkoahjgaa", sum := "2154106f822e4e8aa83c1bcaefc3029e5809510014626977142138f66e44f469", func := "whetstone/whetstonelaw08.BlocksNext", spec := "blocksNext", unfollowed := true, recurses := true, apart := false, narrowed := true }
def BlocksNextUptoSaid : Prop := blocksNextUptoRow.holds Try.pinned (OpenSpec.upto blocksNextSpec)

/-- 'whetstonelaw08.BlocksWhole', WHERE WHAT IT READS IS OF BULK AT MOST 1048576: true; the input reads as it did. -/
def blocksWholeUptoRow : OpenClaim := { program := "ytekenddkoahjgaa", sum := "2154106f822e4e8aa83c1bcaefc3029e5809510014626977142138f66e44f469", func := "whetstone/whetstonelaw08.BlocksWhole", spec := "blocksWhole", unfollowed := true, recurses := true, apart := false, narrowed := true }
def BlocksWholeUptoSaid : Prop := blocksWholeUptoRow.holds Try.pinned (OpenSpec.upto blocksWholeSpec)

/-- 'whetstonelaw08.BlocksMore', WHERE WHAT IT READS IS OF BULK AT MOST 1048576: true; the input reads as it did. -/
def blocksMoreUptoRow : OpenClaim := { program := "ytekenddkoahjgaa", sum := "2154106f822e4e8aa83c1bcaefc3029e5809510014626977142138f66e44f469", func := "whetstone/whetstonelaw08.BlocksMore", spec := "blocksMore", unfollowed := true, recurses := true, apart := false, narrowed := true }
def BlocksMoreUptoSaid : Prop := blocksMoreUptoRow.holds Try.pinned (OpenSpec.upto blocksMoreSpec)

/-- 'whetstonelaw08.BlocksGo', WHERE WHAT IT READS IS OF BULK AT MOST 1048576: true; the input reads as it did. -/
def blocksGoUptoRow : OpenClaim := { program := "ytekenddkoahjgaa", sum := "2154106f822e4e8aa83c1bcaefc3029e5809510014626977142138f66e44f469", func := "whetstone/whetstonelaw08.BlocksGo", spec := "blocksGo", unfollowed := true, recurses := true, apart := false, narrowed := true }
def BlocksGoUptoSaid : Prop := blocksGoUptoRow.holds Try.pinned (OpenSpec.upto blocksGoSpec)

/-- 'whetstonelaw08.BlocksAlone', WHERE WHAT IT READS IS OF BULK AT MOST 1048576: true; the input reads as it did. -/
def blocksAloneUptoRow : OpenClaim := { program := "ytekenddkoahjgaa", sum := "2154106f822e4e8aa83c1bcaefc3029e5809510014626977142138f66e44f469", func := "whetstone/whetstonelaw08.BlocksAlone", spec := "blocksAlone", unfollowed := true, recurses := true, apart := false, narrowed := true }
def BlocksAloneUptoSaid : Prop := blocksAloneUptoRow.holds Try.pinned (OpenSpec.upto blocksAloneSpec)

/-- 'whetstonelaw08.BlocksLoops', WHERE WHAT IT READS IS OF BULK AT MOST 1048576: true; the input reads as it did. -/
def blocksLoopsUptoRow : OpenClaim := { program := "ytekenddkoahjgaa", sum := "2154106f822e4e8aa83c1bcaefc3029e5809510014626977142138f66e44f469", func := "whetstone/whetstonelaw08.BlocksLoops", spec := "blocksLoops", unfollowed := true, recurses := true, apart := false, narrowed := true }
def BlocksLoopsUptoSaid : Prop := blocksLoopsUptoRow.holds Try.pinned (OpenSpec.upto blocksLoopsSpec)

end Rows
end Go.Proofs.Ytekenddkoahjgaa
