/-
  No cell of these rows narrows 'for every input' (looked for: loops, veiled, ifaces, maps, wideKeys, modest, calm, conditions, laid).
  DERIVED. THE GIVEN ROWS OF THIS SEAT. 10 by the template 'for every input the law returns true; each argument reads behind the call as it read before'; 0 by the template 'total and deterministic' (their statements: YtebgdkhfeegcfaaTotals.lean).
  GIVEN WITH THE SEED: the statements are not yours to turn. If you find one false, say at which input.
  Laid BY PROGRAM, IN A SANDBOX (cutbox-rows.mjs): the forced cells as the released guide's own fill.sh prints them over the translation 620c2b6bd74a4c87… (all of the seat's roots in one cut). By AI agents, Wed Nov 11 2026. No macro, syntax, notation, axiom, sorry.
-/
import Derived.Test.YtebgdkhfeegcfaaChecked
import GoSem.Claim
import GoSem.ClaimJoined
import GoSem.ClaimMapViews
import Derived.JoinedTies
import Derived.KernelRfl
namespace Go.Proofs.Ytebgdkhfeegcfaa
/- THE CELL 'sum', in the pinned program and in every row, IS THE sha256 OF THE DUMP (.gsa) THAT YtebgdkhfeegcfaaProg.lean LOADS. Nothing in Lean hashes anything: it is a label: what it is worth is what the hold of that sum in a sandbox is worth. -/
noncomputable def Try.pinned : Pinned := { name := "ytebgdkhfeegcfaa", sum := "620c2b6bd74a4c8740e7d18f9bcdc83d7780523e90a34940e13bf75aabc2cabd", checked := Try.checked }
namespace Rows
def none {H : Type} : Left H := { results := [], args := [] }

/-- 'whetstonelaw01.WordFields': WHATEVER THE INPUT: true; the input reads as it did. -/
def wordFieldsSpec : ChangeSpec := { name := "wordFields", fn := fun _ => fun
  | [d1, d2] => { results := [.lit (.bool true)], args := [d1, d2] }
  | _ => none }
def wordFieldsRow : OpenClaim := { program := "ytebgdkhfeegcfaa", sum := "620c2b6bd74a4c8740e7d18f9bcdc83d7780523e90a34940e13bf75aabc2cabd", func := "whetstone/whetstonelaw01.WordFields", spec := "wordFields", apart := false }
def WordFieldsSaid : Prop := wordFieldsRow.holds Try.pinned (OpenSpec.ofChange wordFieldsSpec)

/-- ITS FALSE NEIGHBOUR: 'it returns false'. Refute it at one input. -/
def wordFieldsWrong : ChangeSpec := { name := "wordFields", fn := fun _ => fun
  | [d1, d2] => { results := [.lit (.bool false)], args := [d1, d2] }
  | _ => none }
def WordFieldsWrongFalsely : Prop := wordFieldsRow.holds Try.pinned (OpenSpec.ofChange wordFieldsWrong)

/-- 'whetstonelaw01.WordDoes': WHATEVER THE INPUT: true; the input reads as it did. -/
def wordDoesSpec : ChangeSpec := { name := "wordDoes", fn := fun _ => fun
  | [d1, d2, d3] => { results := [.lit (.bool true)], args := [d1, d2, d3] }
  | _ => none }
def wordDoesRow : OpenClaim := { program := "ytebgdkhfeegcfaa", sum := "620c2b6bd74a4c8740e7d18f9bcdc83d7780523e90a34940e13bf75aabc2cabd", func := "whetstone/whetstonelaw01.WordDoes", spec := "wordDoes", apart := false }
def WordDoesSaid : Prop := wordDoesRow.holds Try.pinned (OpenSpec.ofChange wordDoesSpec)

/-- ITS FALSE NEIGHBOUR: 'it returns false'. Refute it at one input. -/
def wordDoesWrong : ChangeSpec := { name := "wordDoes", fn := fun _ => fun
  | [d1, d2, d3] => { results := [.lit (.bool false)], args := [d1, d2, d3] }
  | _ => none }
def WordDoesWrongFalsely : Prop := wordDoesRow.holds Try.pinned (OpenSpec.ofChange wordDoesWrong)

/-- 'whetstonelaw01.WordBack': WHATEVER THE INPUT: true; the input reads as it did. -/
def wordBackSpec : ChangeSpec := { name := "wordBack", fn := fun _ => fun
  | [d1, d2, d3] => { results := [.lit (.bool true)], args := [d1, d2, d3] }
  | _ => none }
def wordBackRow : OpenClaim := { program := "ytebgdkhfeegcfaa", sum := "620c2b6bd74a4c8740e7d18f9bcdc83d7780523e90a34940e13bf75aabc2cabd", func := "whetstone/whetstonelaw01.WordBack", spec := "wordBack", apart := false }
def WordBackSaid : Prop := wordBackRow.holds Try.pinned (OpenSpec.ofChange wordBackSpec)

/-- ITS FALSE NEIGHBOUR: 'it returns false'. Refute it at one input. -/
def wordBackWrong : ChangeSpec := { name := "wordBack", fn := fun _ => fun
  | [d1, d2, d3] => { results := [.lit (.bool false)], args := [d1, d2, d3] }
  | _ => none }
def WordBackWrongFalsely : Prop := wordBackRow.holds Try.pinned (OpenSpec.ofChange wordBackWrong)

/-- 'whetstonelaw01.WordDivides': WHATEVER THE INPUT: true; the input reads as it did. -/
def wordDividesSpec : ChangeSpec := { name := "wordDivides", fn := fun _ => fun
  | [d1, d2] => { results := [.lit (.bool true)], args := [d1, d2] }
  | _ => none }
def wordDividesRow : OpenClaim := { program := "ytebgdkhfeegcfaa", sum := "620c2b6bd74a4c8740e7d18f9bcdc83d7780523e90a34940e13bf75aabc2cabd", func := "whetstone/whetstonelaw01.WordDivides", spec := "wordDivides", apart := false }
def WordDividesSaid : Prop := wordDividesRow.holds Try.pinned (OpenSpec.ofChange wordDividesSpec)

/-- ITS FALSE NEIGHBOUR: 'it returns false'. Refute it at one input. -/
def wordDividesWrong : ChangeSpec := { name := "wordDivides", fn := fun _ => fun
  | [d1, d2] => { results := [.lit (.bool false)], args := [d1, d2] }
  | _ => none }
def WordDividesWrongFalsely : Prop := wordDividesRow.holds Try.pinned (OpenSpec.ofChange wordDividesWrong)

/-- 'whetstonelaw01.WordProducts': WHATEVER THE INPUT: true; the input reads as it did. -/
def wordProductsSpec : ChangeSpec := { name := "wordProducts", fn := fun _ => fun
  | [d1, d2] => { results := [.lit (.bool true)], args := [d1, d2] }
  | _ => none }
def wordProductsRow : OpenClaim := { program := "ytebgdkhfeegcfaa", sum := "620c2b6bd74a4c8740e7d18f9bcdc83d7780523e90a34940e13bf75aabc2cabd", func := "whetstone/whetstonelaw01.WordProducts", spec := "wordProducts", apart := false }
def WordProductsSaid : Prop := wordProductsRow.holds Try.pinned (OpenSpec.ofChange wordProductsSpec)

/-- ITS FALSE NEIGHBOUR: 'it returns false'. Refute it at one input. -/
def wordProductsWrong : ChangeSpec := { name := "wordProducts", fn := fun _ => fun
  | [d1, d2] => { results := [.lit (.bool false)], args := [d1, d2] }
  | _ => none }
def WordProductsWrongFalsely : Prop := wordProductsRow.holds Try.pinned (OpenSpec.ofChange wordProductsWrong)

/-- 'whetstonelaw01.WordShifts': WHATEVER THE INPUT: true; the input reads as it did. -/
def wordShiftsSpec : ChangeSpec := { name := "wordShifts", fn := fun _ => fun
  | [d1, d2] => { results := [.lit (.bool true)], args := [d1, d2] }
  | _ => none }
def wordShiftsRow : OpenClaim := { program := "ytebgdkhfeegcfaa", sum := "620c2b6bd74a4c8740e7d18f9bcdc83d7780523e90a34940e13bf75aabc2cabd", func := "whetstone/whetstonelaw01.WordShifts", spec := "wordShifts", apart := false }
def WordShiftsSaid : Prop := wordShiftsRow.holds Try.pinned (OpenSpec.ofChange wordShiftsSpec)

/-- ITS FALSE NEIGHBOUR: 'it returns false'. Refute it at one input. -/
def wordShiftsWrong : ChangeSpec := { name := "wordShifts", fn := fun _ => fun
  | [d1, d2] => { results := [.lit (.bool false)], args := [d1, d2] }
  | _ => none }
def WordShiftsWrongFalsely : Prop := wordShiftsRow.holds Try.pinned (OpenSpec.ofChange wordShiftsWrong)

/-- 'whetstonelaw01.WordOrders': WHATEVER THE INPUT: true; the input reads as it did. -/
def wordOrdersSpec : ChangeSpec := { name := "wordOrders", fn := fun _ => fun
  | [d1, d2] => { results := [.lit (.bool true)], args := [d1, d2] }
  | _ => none }
def wordOrdersRow : OpenClaim := { program := "ytebgdkhfeegcfaa", sum := "620c2b6bd74a4c8740e7d18f9bcdc83d7780523e90a34940e13bf75aabc2cabd", func := "whetstone/whetstonelaw01.WordOrders", spec := "wordOrders", apart := false }
def WordOrdersSaid : Prop := wordOrdersRow.holds Try.pinned (OpenSpec.ofChange wordOrdersSpec)

/-- ITS FALSE NEIGHBOUR: 'it returns false'. Refute it at one input. -/
def wordOrdersWrong : ChangeSpec := { name := "wordOrders", fn := fun _ => fun
  | [d1, d2] => { results := [.lit (.bool false)], args := [d1, d2] }
  | _ => none }
def WordOrdersWrongFalsely : Prop := wordOrdersRow.holds Try.pinned (OpenSpec.ofChange wordOrdersWrong)

/-- 'whetstonelaw01.WordTwos': WHATEVER THE INPUT: true; the input reads as it did. -/
def wordTwosSpec : ChangeSpec := { name := "wordTwos", fn := fun _ => fun
  | [d1, d2] => { results := [.lit (.bool true)], args := [d1, d2] }
  | _ => none }
def wordTwosRow : OpenClaim := { program := "ytebgdkhfeegcfaa", sum := "620c2b6bd74a4c8740e7d18f9bcdc83d7780523e90a34940e13bf75aabc2cabd", func := "whetstone/whetstonelaw01.WordTwos", spec := "wordTwos", apart := false }
def WordTwosSaid : Prop := wordTwosRow.holds Try.pinned (OpenSpec.ofChange wordTwosSpec)

/-- ITS FALSE NEIGHBOUR: 'it returns false'. Refute it at one input. -/
def wordTwosWrong : ChangeSpec := { name := "wordTwos", fn := fun _ => fun
  | [d1, d2] => { results := [.lit (.bool false)], args := [d1, d2] }
  | _ => none }
def WordTwosWrongFalsely : Prop := wordTwosRow.holds Try.pinned (OpenSpec.ofChange wordTwosWrong)

/-- 'whetstonelaw01.WordBits': WHATEVER THE INPUT: true; the input reads as it did. -/
def wordBitsSpec : ChangeSpec := { name := "wordBits", fn := fun _ => fun
  | [d1, d2] => { results := [.lit (.bool true)], args := [d1, d2] }
  | _ => none }
def wordBitsRow : OpenClaim := { program := "ytebgdkhfeegcfaa", sum := "620c2b6bd74a4c8740e7d18f9bcdc83d7780523e90a34940e13bf75aabc2cabd", func := "whetstone/whetstonelaw01.WordBits", spec := "wordBits", apart := false }
def WordBitsSaid : Prop := wordBitsRow.holds Try.pinned (OpenSpec.ofChange wordBitsSpec)

/-- ITS FALSE NEIGHBOUR: 'it returns false'. Refute it at one input. -/
def wordBitsWrong : ChangeSpec := { name := "wordBits", fn := fun _ => fun
  | [d1, d2] => { results := [.lit (.bool false)], args := [d1, d2] }
  | _ => none }
def WordBitsWrongFalsely : Prop := wordBitsRow.holds Try.pinned (OpenSpec.ofChange wordBitsWrong)

/-- 'whetstonelaw01.WordHalves': WHATEVER THE INPUT: true; the input reads as it did. -/
def wordHalvesSpec : ChangeSpec := { name := "wordHalves", fn := fun _ => fun
  | [d1, d2, d3] => { results := [.lit (.bool true)], args := [d1, d2, d3] }
  | _ => none }
def wordHalvesRow : OpenClaim := { program := "ytebgdkhfeegcfaa", sum := "620c2b6bd74a4c8740e7d18f9bcdc83d7780523e90a34940e13bf75aabc2cabd", func := "whetstone/whetstonelaw01.WordHalves", spec := "wordHalves", apart := false }
def WordHalvesSaid : Prop := wordHalvesRow.holds Try.pinned (OpenSpec.ofChange wordHalvesSpec)

/-- ITS FALSE NEIGHBOUR: 'it returns false'. Refute it at one input. -/
def wordHalvesWrong : ChangeSpec := { name := "wordHalves", fn := fun _ => fun
  | [d1, d2, d3] => { results := [.lit (.bool false)], args := [d1, d2, d3] }
  | _ => none }
def WordHalvesWrongFalsely : Prop := wordHalvesRow.holds Try.pinned (OpenSpec.ofChange wordHalvesWrong)

/- THE SECOND FORM. 'bulk': how many values and letters a reading holds, each counted each time it is reached (what is shared counts as often as it is met; a slice's spare places count too). A statement '..UptoSaid' is the law's where the arguments, and the package variables that the reading takes, are together of bulk at most 1048576: NARROWER than '..Said'. Prove '..Said' where nothing that the law and all that it calls make is longer than what came in: it says more and counts as full. Else prove '..UptoSaid'. A law counts once. -/
mutual
def uptoBulk {H : Type} : DataW H → Nat
  | .lit (.string bytes) => bytes.length + 1
  | .lit _ => 1
  | .nil => 1
  | .ptr d => uptoBulk d + 1
  | .slice elems spare => uptoBulkAll elems + uptoBulkAll spare + 1
  | .agg parts => uptoBulkAll parts + 1
  | .iface _ d => uptoBulk d + 1
  | .map entries => uptoBulkEntries entries + 1
  | .held _ => 1
def uptoBulkAll {H : Type} : List (DataW H) → Nat
  | [] => 0
  | d :: r => uptoBulk d + uptoBulkAll r
def uptoBulkEntries {H : Type} : List (Lit × DataW H) → Nat
  | [] => 0
  | x :: r => uptoBulkEntry x + uptoBulkEntries r
def uptoBulkEntry {H : Type} : Lit × DataW H → Nat
  | (.string bytes, d) => bytes.length + uptoBulk d + 1
  | (_, d) => uptoBulk d + 1
 end
def uptoSmall : (H : Type) → List (DataW H) → Bool := fun _ ds => decide (uptoBulkAll ds ≤ 1048576)
def OpenSpec.upto (s : _root_.Go.ChangeSpec) : _root_.Go.OpenSpec := { _root_.Go.OpenSpec.ofChange s with cond := some uptoSmall }

/-- 'whetstonelaw01.WordFields', WHERE WHAT IT READS IS OF BULK AT MOST 1048576: true; the input reads as it did. -/
def wordFieldsUptoRow : OpenClaim := { program := "ytebgdkhfeegcfaa", sum := "620c2b6bd74a4c8740e7d18f9bcdc83d7780523e90a34940e13bf75aabc2cabd", func := "whetstone/whetstonelaw01.WordFields", spec := "wordFields", apart := false, narrowed := true }
def WordFieldsUptoSaid : Prop := wordFieldsUptoRow.holds Try.pinned (OpenSpec.upto wordFieldsSpec)

/-- 'whetstonelaw01.WordDoes', WHERE WHAT IT READS IS OF BULK AT MOST 1048576: true; the input reads as it did. -/
def wordDoesUptoRow : OpenClaim := { program := "ytebgdkhfeegcfaa", sum := "620c2b6bd74a4c8740e7d18f9bcdc83d7780523e90a34940e13bf75aabc2cabd", func := "whetstone/whetstonelaw01.WordDoes", spec := "wordDoes", apart := false, narrowed := true }
def WordDoesUptoSaid : Prop := wordDoesUptoRow.holds Try.pinned (OpenSpec.upto wordDoesSpec)

/-- 'whetstonelaw01.WordBack', WHERE WHAT IT READS IS OF BULK AT MOST 1048576: true; the input reads as it did. -/
def wordBackUptoRow : OpenClaim := { program := "ytebgdkhfeegcfaa", sum := "620c2b6bd74a4c8740e7d18f9bcdc83d7780523e90a34940e13bf75aabc2cabd", func := "whetstone/whetstonelaw01.WordBack", spec := "wordBack", apart := false, narrowed := true }
def WordBackUptoSaid : Prop := wordBackUptoRow.holds Try.pinned (OpenSpec.upto wordBackSpec)

/-- 'whetstonelaw01.WordDivides', WHERE WHAT IT READS IS OF BULK AT MOST 1048576: true; the input reads as it did. -/
def wordDividesUptoRow : OpenClaim := { program := "ytebgdkhfeegcfaa", sum := "620c2b6bd74a4c8740e7d18f9bcdc83d7780523e90a34940e13bf75aabc2cabd", func := "whetstone/whetstonelaw01.WordDivides", spec := "wordDivides", apart := false, narrowed := true }
def WordDividesUptoSaid : Prop := wordDividesUptoRow.holds Try.pinned (OpenSpec.upto wordDividesSpec)

/-- 'whetstonelaw01.WordProducts', WHERE WHAT IT READS IS OF BULK AT MOST 1048576: true; the input reads as it did. -/
def wordProductsUptoRow : OpenClaim := { program := "ytebgdkhfeegcfaa", sum := "620c2b6bd74a4c8740e7d18f9bcdc83d7780523e90a34940e13bf75aabc2cabd", func := "whetstone/whetstonelaw01.WordProducts", spec := "wordProducts", apart := false, narrowed := true }
def WordProductsUptoSaid : Prop := wordProductsUptoRow.holds Try.pinned (OpenSpec.upto wordProductsSpec)

/-- 'whetstonelaw01.WordShifts', WHERE WHAT IT READS IS OF BULK AT MOST 1048576: true; the input reads as it did. -/
def wordShiftsUptoRow : OpenClaim := { program := "ytebgdkhfeegcfaa", sum := "620c2b6bd74a4c8740e7d18f9bcdc83d7780523e90a34940e13bf75aabc2cabd", func := "whetstone/whetstonelaw01.WordShifts", spec := "wordShifts", apart := false, narrowed := true }
def WordShiftsUptoSaid : Prop := wordShiftsUptoRow.holds Try.pinned (OpenSpec.upto wordShiftsSpec)

/-- 'whetstonelaw01.WordOrders', WHERE WHAT IT READS IS OF BULK AT MOST 1048576: true; the input reads as it did. -/
def wordOrdersUptoRow : OpenClaim := { program := "ytebgdkhfeegcfaa", sum := "620c2b6bd74a4c8740e7d18f9bcdc83d7780523e90a34940e13bf75aabc2cabd", func := "whetstone/whetstonelaw01.WordOrders", spec := "wordOrders", apart := false, narrowed := true }
def WordOrdersUptoSaid : Prop := wordOrdersUptoRow.holds Try.pinned (OpenSpec.upto wordOrdersSpec)

/-- 'whetstonelaw01.WordTwos', WHERE WHAT IT READS IS OF BULK AT MOST 1048576: true; the input reads as it did. -/
def wordTwosUptoRow : OpenClaim := { program := "ytebgdkhfeegcfaa", sum := "620c2b6bd74a4c8740e7d18f9bcdc83d7780523e90a34940e13bf75aabc2cabd", func := "whetstone/whetstonelaw01.WordTwos", spec := "wordTwos", apart := false, narrowed := true }
def WordTwosUptoSaid : Prop := wordTwosUptoRow.holds Try.pinned (OpenSpec.upto wordTwosSpec)

/-- 'whetstonelaw01.WordBits', WHERE WHAT IT READS IS OF BULK AT MOST 1048576: true; the input reads as it did. -/
def wordBitsUptoRow : OpenClaim := { program := "ytebgdkhfeegcfaa", sum := "620c2b6bd74a4c8740e7d18f9bcdc83d7780523e90a34940e13bf75aabc2cabd", func := "whetstone/whetstonelaw01.WordBits", spec := "wordBits", apart := false, narrowed := true }
def WordBitsUptoSaid : Prop := wordBitsUptoRow.holds Try.pinned (OpenSpec.upto wordBitsSpec)

/-- 'whetstonelaw01.WordHalves', WHERE WHAT IT READS IS OF BULK AT MOST 1048576: true; the input reads as it did. -/
def wordHalvesUptoRow : OpenClaim := { program := "ytebgdkhfeegcfaa", sum := "620c2b6bd74a4c8740e7d18f9bcdc83d7780523e90a34940e13bf75aabc2cabd", func := "whetstone/whetstonelaw01.WordHalves", spec := "wordHalves", apart := false, narrowed := true }
def WordHalvesUptoSaid : Prop := wordHalvesUptoRow.holds Try.pinned (OpenSpec.upto wordHalvesSpec)

end Rows
end Go.Proofs.Ytebgdkhfeegcfaa
