import Derived.Test.YtcjbdfhofpfooaaProg
import Derived.WalkKit
import Derived.KernelRfl
import Derived.Below
import Derived.Outline
import Derived.LoopTactic
import Derived.Maps.AppendAt
import Derived.Laws.BitsLemmas
import Derived.Laws.BitsAllLaws
import Derived.Deep.LoopGhost
import Derived.Lib.Hide
import Derived.Deep.QuietTactic
import Derived.BigQuiet
import Derived.Deep.Draws
import Derived.Laws.StructEq
import Derived.Deep.Slices
import Derived.Deep.Fields
import Derived.ChangeSame
import Derived.Deep.CutBlock
import Derived.Deep.DeepCutAuto
import Derived.Deep.RegionHeld3
import Derived.StillTailTactics
import Derived.WalkSmall
import Derived.RangeFuncBox
import Derived.OwnWalk
import Derived.Laws.OwnMore
import Derived.Laws.BytesArg
import Derived.Laws.MakeOwn
/- Layer 18: the walks of package grammar (part GA). -/
namespace Go.Proofs.Ytcjbdfhofpfooaa.Gm
open Go.RowKit Go.Maps Go.Proofs
set_option linter.unusedVariables false
set_option linter.unusedSimpArgs false
/-! ## Instructions and numbers in memory -/
/-- An instruction. -/
structure In where
  op : Int
  rd : Int
  a : Int
  b : Int
  m : Int
theorem In.ext_iff' (x y : In) : x = y ↔ (x.op = y.op ∧ x.rd = y.rd ∧ x.a = y.a ∧ x.b = y.b ∧ x.m = y.m) := by
  constructor
  · rintro rfl; exact ⟨rfl, rfl, rfl, rfl, rfl⟩
  · obtain ⟨a, b, c, d, e⟩ := x; obtain ⟨a', b', c', d', e'⟩ := y; rintro ⟨h1, h2, h3, h4, h5⟩; simp at h1 h2 h3 h4 h5; subst h1 h2 h3 h4 h5; rfl
instance : DecidableEq In := fun x y => decidable_of_iff _ (In.ext_iff' x y).symm
instance : Inhabited In := ⟨⟨0, 0, 0, 0, 0⟩⟩
def iv (x : In) : List Value := [.int .i64 x.op, .int .i64 x.rd, .int .i64 x.a, .int .i64 x.b, .int .i64 x.m]
abbrev ia (x : In) : Value := .agg #[.int .i64 x.op, .int .i64 x.rd, .int .i64 x.a, .int .i64 x.b, .int .i64 x.m]
def ivs (l : List In) : List Value := l.flatMap iv
theorem ivs_append (l m : List In) : ivs (l ++ m) = ivs l ++ ivs m := List.flatMap_append
theorem ivs_length (l : List In) : (ivs l).length = l.length * 5 := by
  induction l with
  | nil => rfl
  | cons x l ih => simp only [ivs, iv, List.flatMap_cons, List.length_append, List.length_cons, List.length_nil] at ih ⊢; rw [ih]; omega
theorem ivs_get (l : List In) (j : Nat) (x : In) (h : l[j]? = some x) :
    (ivs l)[j * 5]? = some (.int .i64 x.op) ∧ (ivs l)[j * 5 + 1]? = some (.int .i64 x.rd) ∧ (ivs l)[j * 5 + 2]? = some (.int .i64 x.a) ∧ (ivs l)[j * 5 + 3]? = some (.int .i64 x.b) ∧ (ivs l)[j * 5 + 4]? = some (.int .i64 x.m) := by
  induction l generalizing j with
  | nil => simp at h
  | cons y l ih =>
    cases j with
    | zero =>
      simp only [List.getElem?_cons_zero, Option.some.injEq] at h
      subst h
      simp [ivs, iv]
    | succ j =>
      simp only [List.getElem?_cons_succ] at h
      have := ih j h
      simp only [ivs, iv, List.flatMap_cons] at this ⊢
      rw [show (j + 1) * 5 = j * 5 + 5 by omega, show j * 5 + 5 + 1 = (j * 5 + 1) + 5 by omega, show j * 5 + 5 + 2 = (j * 5 + 2) + 5 by omega, show j * 5 + 5 + 3 = (j * 5 + 3) + 5 by omega, show j * 5 + 5 + 4 = (j * 5 + 4) + 5 by omega]
      exact this
/-- A slice of instructions of the call's own. -/
abbrev OwnI (w : World) (base : Nat) (v : Value) (l : List In) : Prop := w.ownsRow base 25 5 v l.length (ivs l)
theorem infoI : (Try.prog.info? 25).map (fun i => (i.zero, i.size, i.bytes)) = some (some (.agg #[.int .i64 0, .int .i64 0, .int .i64 0, .int .i64 0, .int .i64 0]), 5, 40) := by kernel_rfl
theorem infoN : (Try.prog.info? 3).map (fun i => (i.zero, i.size, i.bytes)) = some (some (.int .i64 0), 1, 8) := by kernel_rfl
theorem cells_new (w : World) (cs : Array Value) (t : TypeId) : ∀ j u, cs.toList[j]? = some u → (w.alloc (.cells cs t)).cell? ((⟨w.heap.size, 0, none⟩ : Addr).add j) = some u := by
  intro j u hj
  have e : (⟨w.heap.size, 0, none⟩ : Addr).add j = ⟨w.heap.size, j, none⟩ := by unfold Addr.add; split <;> simp_all
  have := World.alloc_heap_new w (.cells cs t)
  rw [e]
  simp only [World.cell?, this]
  simpa using hj
/-- The cells of instruction x at a place. -/
structure InAt (w : World) (b off : Nat) (x : In) : Prop where
  c0 : w.cell? ⟨b, off, none⟩ = some (.int .i64 x.op)
  c1 : w.cell? ⟨b, off + 1, none⟩ = some (.int .i64 x.rd)
  c2 : w.cell? ⟨b, off + 2, none⟩ = some (.int .i64 x.a)
  c3 : w.cell? ⟨b, off + 3, none⟩ = some (.int .i64 x.b)
  c4 : w.cell? ⟨b, off + 4, none⟩ = some (.int .i64 x.m)
/-- A slice value reads as the instructions l, which lie in a block below n0. -/
def ReadI (n0 : Nat) (w : World) (v : Value) (l : List In) : Prop :=
  ∃ o cap, v = .slice o l.length cap ∧ (l ≠ [] → ∃ b off, o = some ⟨b, off, none⟩ ∧ b < n0 ∧ ∀ j x, l[j]? = some x → InAt w b (off + j * 5) x)
/-- .. as the numbers l. -/
def ReadN (n0 : Nat) (w : World) (v : Value) (l : List Int) : Prop :=
  ∃ o cap, v = .slice o l.length cap ∧ (l ≠ [] → ∃ b off, o = some ⟨b, off, none⟩ ∧ b < n0 ∧ ∀ j x, l[j]? = some x → w.cell? ⟨b, off + j, none⟩ = some (.int .i64 x))
/-- .. in a block of which S holds. -/
def ReadS (S : Nat → Prop) (w : World) (v : Value) (l : List Int) : Prop :=
  ∃ o cap, v = .slice o l.length cap ∧ (l ≠ [] → ∃ b off, o = some ⟨b, off, none⟩ ∧ S b ∧ ∀ j x, l[j]? = some x → w.cell? ⟨b, off + j, none⟩ = some (.int .i64 x))
theorem ReadN.toS {n0 : Nat} {S : Nat → Prop} {w : World} {v : Value} {l : List Int} (h : ReadN n0 w v l) (hS : ∀ b, b < n0 → S b) : ReadS S w v l := by
  obtain ⟨o, cap, e, h⟩ := h
  exact ⟨o, cap, e, fun hl => by obtain ⟨b, off, e2, hb, hc⟩ := h hl; exact ⟨b, off, e2, hS b hb, hc⟩⟩
/-- The blocks of which S holds lie as they lay. -/
def KeepS (S : Nat → Prop) (A B : World) : Prop := ∀ b, S b → B.heap[b]? = A.heap[b]?
theorem KeepS.refl (S : Nat → Prop) (A : World) : KeepS S A A := fun _ _ => rfl
theorem KeepS.trans {S : Nat → Prop} {A B C : World} (h : KeepS S A B) (k : KeepS S B C) : KeepS S A C := fun b hb => (k b hb).trans (h b hb)
theorem KeepS.cell {S : Nat → Prop} {A B : World} (h : KeepS S A B) {b : Nat} (hb : S b) (o : Nat) : B.cell? ⟨b, o, none⟩ = A.cell? ⟨b, o, none⟩ := by
  unfold World.cell?; dsimp only; rw [h b hb]
theorem KeepS.alloc {S : Nat → Prop} {A B : World} (h : KeepS S A B) (hS : ∀ b, S b → b < A.heap.size) (o : Obj) : KeepS S A (B.alloc o) := fun b hb => by
  have hlt : b < B.heap.size := by
    have := h b hb
    rw [Array.getElem?_eq_getElem (hS b hb)] at this
    exact (Array.getElem?_eq_some_iff.1 this).1
  exact (Below.heap_alloc B o b hlt).trans (h b hb)
theorem KeepS.grown {S : Nat → Prop} {A B : World} {row : Option Nat} (hS : ∀ b, S b → b < A.heap.size) (hg : A.grownBy B row) (hr : ∀ b, S b → some b ≠ row) : KeepS S A B := fun b hb => hg.block b (hS b hb) (hr b hb)
theorem KeepS.below {S : Nat → Prop} {A B : World} (hS : ∀ b, S b → b < A.heap.size) (hB : Below A.heap.size A B) : KeepS S A B := fun b hb => hB.block b (hS b hb)
theorem KeepS.lt {S : Nat → Prop} {A B : World} (h : KeepS S A B) (hS : ∀ b, S b → b < A.heap.size) : ∀ b, S b → b < B.heap.size := fun b hb => by
  have := h b hb
  rw [Array.getElem?_eq_getElem (hS b hb)] at this
  exact (Array.getElem?_eq_some_iff.1 this).1
theorem InAt.below {n0 : Nat} {w w' : World} {b off : Nat} {x : In} (h : InAt w b off x) (hB : Below n0 w w') (hb : b < n0) : InAt w' b off x :=
  ⟨(hB.cell (p := ⟨b, off, none⟩) hb).trans h.c0, (hB.cell (p := ⟨b, off + 1, none⟩) hb).trans h.c1, (hB.cell (p := ⟨b, off + 2, none⟩) hb).trans h.c2, (hB.cell (p := ⟨b, off + 3, none⟩) hb).trans h.c3, (hB.cell (p := ⟨b, off + 4, none⟩) hb).trans h.c4⟩
theorem ReadI.below {n0 : Nat} {w w' : World} {v : Value} {l : List In} (h : ReadI n0 w v l) (hB : Below n0 w w') : ReadI n0 w' v l := by
  obtain ⟨o, cap, e, h⟩ := h
  exact ⟨o, cap, e, fun hl => by obtain ⟨b, off, e2, hb, hc⟩ := h hl; exact ⟨b, off, e2, hb, fun j x hx => (hc j x hx).below hB hb⟩⟩
theorem ReadN.below {n0 : Nat} {w w' : World} {v : Value} {l : List Int} (h : ReadN n0 w v l) (hB : Below n0 w w') : ReadN n0 w' v l := by
  obtain ⟨o, cap, e, h⟩ := h
  exact ⟨o, cap, e, fun hl => by obtain ⟨b, off, e2, hb, hc⟩ := h hl; exact ⟨b, off, e2, hb, fun j x hx => (hB.cell (p := ⟨b, off + j, none⟩) hb).trans (hc j x hx)⟩⟩
theorem ReadI.mono {n0 n1 : Nat} {w : World} {v : Value} {l : List In} (h : ReadI n0 w v l) (hn : n0 ≤ n1) : ReadI n1 w v l := by
  obtain ⟨o, cap, e, h⟩ := h
  exact ⟨o, cap, e, fun hl => by obtain ⟨b, off, e2, hb, hc⟩ := h hl; exact ⟨b, off, e2, Nat.lt_of_lt_of_le hb hn, hc⟩⟩
theorem ReadN.mono {n0 n1 : Nat} {w : World} {v : Value} {l : List Int} (h : ReadN n0 w v l) (hn : n0 ≤ n1) : ReadN n1 w v l := by
  obtain ⟨o, cap, e, h⟩ := h
  exact ⟨o, cap, e, fun hl => by obtain ⟨b, off, e2, hb, hc⟩ := h hl; exact ⟨b, off, e2, Nat.lt_of_lt_of_le hb hn, hc⟩⟩
theorem ReadI.nil {n0 : Nat} {w : World} {v : Value} (h : v = .slice none 0 0) : ReadI n0 w v [] := ⟨none, 0, h, fun h => absurd rfl h⟩
theorem ReadN.nil {n0 : Nat} {w : World} {v : Value} (h : v = .slice none 0 0) : ReadN n0 w v [] := ⟨none, 0, h, fun h => absurd rfl h⟩
theorem OwnI.below {w w' : World} {base : Nat} {v : Value} {l : List In} (h : OwnI w base v l) (hB : Below w.heap.size w w') : OwnI w' base v l := by
  refine ⟨h.1, ?_⟩
  rcases h.2 with hn | ⟨g, cap, cur, e, hb, hg, rest⟩
  · exact .inl hn
  · exact .inr ⟨g, cap, cur, e, hb, (hB.block g (Array.getElem?_eq_some_iff.1 hg).1).trans hg, rest⟩
theorem hold_ {p : Prop} (h : True → p) : p := h trivial
end Go.Proofs.Ytcjbdfhofpfooaa.Gm
