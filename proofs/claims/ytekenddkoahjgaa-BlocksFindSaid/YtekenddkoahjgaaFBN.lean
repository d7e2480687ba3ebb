import Derived.Test.YtekenddkoahjgaaFBR
import Derived.WalkKit
import Derived.KernelRfl
import Derived.Below
import Derived.Outline
import Derived.LoopTactic
import Derived.Maps.Own
import Derived.Maps.OwnOps
import Derived.Maps.OwnSet
import Derived.Maps.Views
import Derived.Maps.AppendAt
import Derived.Laws.BitsLemmas
import Derived.Laws.BitsAllLaws
import Derived.Deep.LoopGhost
import Derived.Lib.Hide
import Derived.Deep.QuietTactic
import Derived.BigQuiet
import Derived.Deep.Draws
import Derived.Laws.StructEq
import Derived.Deep.Slices
import Derived.Deep.Fields
import Derived.ChangeSame
import Derived.Deep.CutBlock
import Derived.Deep.DeepCutAuto
import Derived.Deep.RegionHeld3
import Derived.StillTailTactics
import Derived.WalkSmall
import Derived.OwnWalk
import Derived.Laws.OwnMore
import Derived.Laws.BytesArg
import Derived.Laws.MakeOwn
import Derived.Laws.Tables
import Derived.Laws.Rows
import Derived.Laws.World
import Derived.Lib.SliceRun
/- Layer 8, walked: whetstoneref08.Next. -/
namespace Go.Proofs.Ytekenddkoahjgaa.Bl
open Go.RowKit Go.Maps Go.Proofs
set_option maxRecDepth 100000
set_option linter.unusedVariables false
set_option linter.unusedSimpArgs false
def RdBk (w : World) (A : Option Addr) (L : List (Nat × Nat)) : Prop := ∀ (i : Nat) (x : Nat × Nat), L[i]? = some x → ∃ ad, A = some ad ∧ w.cell? (ad.add (i * 2)) = some (.int .u32 (x.1 : Int)) ∧ w.cell? ⟨(ad.add (i * 2)).block, (ad.add (i * 2)).off + 1, none⟩ = some (.int .i64 (x.2 : Int))
theorem RdBk.below {w w' : World} {A : Option Addr} {L : List (Nat × Nat)} (h : RdBk w A L) (hb : Below w.heap.size w w') : RdBk w' A L := fun i x hx => by
 obtain ⟨ad, e, h0, h1⟩ := h i x hx
 exact ⟨ad, e, (hb.cell (cell_lt h0)).trans h0, (hb.cell (p := ⟨(ad.add (i * 2)).block, (ad.add (i * 2)).off + 1, none⟩) (cell_lt h1)).trans h1⟩
abbrev OwnN (w : World) (base : Nat) (v : Value) (l : List Nat) : Prop := w.ownsRow base 3 1 v l.length (l.map fun x : Nat => .int .i64 (x : Int))
structure NSt (n0 : Nat) (w wx : World) (B E : Int) (A : Option Addr) (n cap : Nat) (S : Int) (v : Value) (l : List Nat) : Prop where
 box : wx.heap[w.heap.size]? = some (.cells #[.int .u32 B, .int .u32 E, .slice A n cap, .int .i64 S] 32 (0, 0))
 own : OwnN wx n0 v l
 bel : Below w.heap.size w wx
 lo : w.heap.size < n0
 hi : n0 ≤ wx.heap.size
theorem NSt.below {n0 : Nat} {w wx wy : World} {B E : Int} {A : Option Addr} {n cap : Nat} {S : Int} {v : Value} {l : List Nat} (h : NSt n0 w wx B E A n cap S v l) (hb : Below wx.heap.size wx wy) : NSt n0 w wy B E A n cap S v l :=
 ⟨(hb.block w.heap.size (by have := h.lo; have := h.hi; omega)).trans h.box, World.ownsRow.kept h.own (grownB' hb none) (by
  cases hv : v.ownBlock with
  | none => exact .inl rfl
  | some k => exact .inr (by simp)), h.bel.trans (hb.mono h.bel.size), h.lo, Nat.le_trans h.hi hb.size⟩
theorem NSt.app {n0 : Nat} {w wx wy : World} {B E : Int} {A : Option Addr} {n cap : Nat} {S : Int} {v v' : Value} {l l' : List Nat} (h : NSt n0 w wx B E A n cap S v l) (ho : OwnN wy n0 v' l') (hg : wx.grownBy wy v.ownBlock) : NSt n0 w wy B E A n cap S v' l' :=
 ⟨(hg.block w.heap.size (by have := h.lo; have := h.hi; omega) (fun e => by have := (World.ownsRow.lt h.own _ e.symm).1; have := h.lo; omega)).trans h.box, ho, h.bel.grown hg h.bel.size (fun k hk => by have := (World.ownsRow.lt h.own k hk).1; have := h.lo; omega), h.lo, Nat.le_trans h.hi hg.size⟩
end Go.Proofs.Ytekenddkoahjgaa.Bl
