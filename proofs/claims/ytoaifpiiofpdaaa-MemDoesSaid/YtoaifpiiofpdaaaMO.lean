import Derived.Test.YtoaifpiiofpdaaaMN
import Derived.Test.YtoaifpiiofpdaaaML
import Derived.WalkKit
import Derived.KernelRfl
import Derived.Below
import Derived.Outline
import Derived.LoopTactic
import Derived.Maps.Own
import Derived.Maps.OwnOps
import Derived.Maps.OwnSet
import Derived.Maps.Views
import Derived.Maps.AppendAt
import Derived.Laws.BitsLemmas
import Derived.Laws.BitsAllLaws
import Derived.Deep.LoopGhost
import Derived.Lib.Hide
import Derived.Deep.QuietTactic
import Derived.BigQuiet
import Derived.Deep.Draws
import Derived.Laws.StructEq
import Derived.Deep.Slices
import Derived.Deep.Fields
import Derived.ChangeSame
import Derived.Deep.CutBlock
import Derived.Deep.DeepCutAuto
import Derived.Deep.RegionHeld3
import Derived.StillTailTactics
import Derived.WalkSmall
import Derived.RangeFuncBox
import Derived.OwnWalk
import Derived.Laws.OwnMore
import Derived.Laws.BytesArg
import Derived.Laws.MakeOwn
namespace Go.Proofs.Ytoaifpiiofpdaaa.Mm
open Go.RowKit Go.Maps Go.Proofs
set_option linter.unusedVariables false
set_option linter.unusedSimpArgs false
/-! ### MemDoes -/
theorem mem_apart {w : World} {p b n q nr : Nat} {f g : Nat → Nat} {l : List (Nat × Nat)} (h : MemAt w p b n f) (r : RefM w q nr g l) : p ≠ q ∧ b ≠ q ∧ ∀ v, OwnC w 0 v l → v.ownBlock = none ∨ v.ownBlock ≠ some b := by
  obtain ⟨v0, hq, _⟩ := r.at_
  obtain ⟨⟨D, ho, _⟩, _⟩ := h.map
  obtain ⟨es, clock, hb, _⟩ := ho
  refine ⟨fun e => ?_, fun e => ?_, fun v hv => ?_⟩
  · have := h.ptr
    rw [e, hq] at this
    simp at this
  · rw [e, hq] at hb
    simp at hb
  · rcases hv.2 with ⟨h1, _⟩ | ⟨gg, cap, cur, rfl, _, hg, _⟩
    · left; rw [h1]; rfl
    · right
      intro e
      have e2 : gg = b := by simpa [Value.ownBlock] using e
      rw [e2, hb] at hg
      simp at hg
theorem RefM.other {w w' : World} {p b n q nr : Nat} {f g : Nat → Nat} {l : List (Nat × Nat)} (r : RefM w q nr g l) (h : MemAt w p b n f) (hg : w.grownBy w' (some b)) : RefM w' q nr g l := by
  obtain ⟨h1, h2, h3⟩ := mem_apart h r
  exact ⟨r.at_.kept hg (fun e => h2 (Option.some.inj e).symm) (fun v hv _ => h3 v hv), r.rep, r.len, r.lt⟩
theorem MemAt.byRef {w w' : World} {p b n q nr : Nat} {f g : Nat → Nat} {l : List (Nat × Nat)} (h : MemAt w p b n f) (r : RefM w q nr g l) (hg : w.grownBy w' (some q)) : MemAt w' p b n f := by
  obtain ⟨h1, h2, _⟩ := mem_apart h r
  exact h.other hg h1 h2
/-- What MemDoes keeps: the memory, the reference's, of the same bytes. -/
structure Two (W w : World) (p b q n : Nat) (f : Nat → Nat) (l : List (Nat × Nat)) : Prop where
  mem : MemAt w p b n f
  ref : RefM w q n f l
  hb : W.heap.size ≤ b
  hq : W.heap.size ≤ q
  bel : Below W.heap.size W w
theorem Two.below {W w w' : World} {p b q n : Nat} {f : Nat → Nat} {l : List (Nat × Nat)} (h : Two W w p b q n f l) (hB : Below w.heap.size w w') : Two W w' p b q n f l :=
  ⟨h.mem.below hB, h.ref.below hB, h.hb, h.hq, h.bel.trans (hB.mono h.bel.size)⟩
end Go.Proofs.Ytoaifpiiofpdaaa.Mm
