import Derived.Test.YtekenddkoahjgaaHWMore
import Derived.Test.YtekenddkoahjgaaProg
import Derived.Deep.Fields
import Derived.Deep.Slices
import Derived.OpenShut
import Derived.ShutString
import Derived.Lib.SmallJoins
/- Reading what a call is handed into kinds (Kd): whatever the type. -/
namespace Go.Proofs.Ytekenddkoahjgaa.Op
open Go.RowKit Go.Deep Go.ChangeShapes Go.WideShapes Go.Proofs.YtekenddkoahjgaaW.PrintWords
set_option linter.unusedVariables false
variable {P : Program}
def Opens {α : Type} (P : Program) (d : Kd α) (t : TypeId) (p : α → Prop) : Prop :=
 ∀ {H : Type} (enc : TypeId × Value → H) (W : World) (n : Nat) (cs : List Value) (y : DataW H × List MemPlace), DataW.trod enc P W 0 (fun _ => true) true n t cs = some y → ∃ x, d.K W x cs ∧ p x
theorem opens_int {t : TypeId} {k : IntKind} (hu : P.underlying t = some (.int k)) : Opens P (Kd.int k) t (fun x => (Lit.int k x).wf = true) := by
 intro H enc W n cs y h
 obtain ⟨x, e, _, w⟩ := DataW.trod_int hu h
 exact ⟨x, e, w⟩
theorem open_row {α : Type} {d : Kd α} {t e : TypeId} {p : α → Prop} (hu : P.underlying t = some (.slice e)) (hs : P.cellsOf e = d.sz) (hd : Opens P d e p)
  {H : Type} {enc : TypeId × Value → H} {W : World} {n : Nat} {v : Value} {y : DataW H × List MemPlace} (h : DataW.trod enc P W 0 (fun _ => true) true n t [v] = some y) :
  ∃ A c, ∃ xs : List α, v = .slice A xs.length c ∧ xs.length ≤ c ∧ c ≤ maxLen ∧ d.C W A xs.length xs ∧ ∀ x ∈ xs, p x := by
 rcases open_slice hu h with ⟨hcs, _⟩ | ⟨a, len, cp, m, n, D, Pl, hcs, hb, hl, hm, hmm, hx, hi⟩
 ·obtain rfl := (List.cons.inj hcs).1
  exact ⟨none, 0, [], rfl, Nat.le_refl _, Nat.zero_le _, ⟨rfl, Nat.zero_le _, fun h => by cases h⟩, fun x hx => by cases hx⟩
 ·obtain rfl := (List.cons.inj hcs).1
  simp only [if_true] at hmm
  have hmm2 : cp = m := hmm.symm
  clear hmm
  subst hmm2
  rw [hs] at hi
  have key : ∀ i, i < len → ∃ q : Option α, ∃ x cs, q = some x ∧ W.cells? 0 (a.add (i * d.sz)) d.sz = some cs ∧ d.K W x cs ∧ p x := by
   intro i hil
   obtain ⟨cs, h1, h2⟩ := hi i (Nat.lt_of_lt_of_le hil hl)
   obtain ⟨x, hk, hp⟩ := hd enc W n cs _ h2
   exact ⟨some x, x, cs, rfl, h1, hk, hp⟩
  obtain ⟨f, hf⟩ := choose_lt key
  have hsome : ∀ i, i < len → ∃ x, f i = some x := fun i h => by obtain ⟨x, _, e, _⟩ := hf i h; exact ⟨x, e⟩
  have hlen : ((List.range len).filterMap f).length = len := by
   have : ∀ k, k ≤ len → ((List.range k).filterMap f).length = k := by
    intro k
    induction k with
    | zero => intro _; rfl
    | succ k ih =>
     intro hk
     obtain ⟨x, e⟩ := hsome k (by omega)
     rw [List.range_succ, List.filterMap_append, List.length_append, ih (by omega)]
     simp [e]
   exact this len (Nat.le_refl _)
  have hget : ∀ k, k ≤ len → ∀ j, j < k → ((List.range k).filterMap f)[j]? = f j := by
   intro k
   induction k with
   | zero => intro _ j hj; omega
   | succ k ih =>
    intro hk j hj
    have hk2 : ((List.range k).filterMap f).length = k := by
     have : ∀ k, k ≤ len → ((List.range k).filterMap f).length = k := by
      intro k
      induction k with
      | zero => intro _; rfl
      | succ k ih =>
       intro hk
       obtain ⟨x, e⟩ := hsome k (by omega)
       rw [List.range_succ, List.filterMap_append, List.length_append, ih (by omega)]
       simp [e]
     exact this k (by omega)
    obtain ⟨x, e⟩ := hsome k (by omega)
    rw [List.range_succ, List.filterMap_append]
    by_cases hjk : j < k
    ·rw [List.getElem?_append_left (by omega)]
     exact ih (by omega) j hjk
    ·obtain rfl : j = k := by omega
     rw [List.getElem?_append_right (by omega), hk2]
     simp [e]
  have hmem : ∀ j x, ((List.range len).filterMap f)[j]? = some x → j < len ∧ f j = some x := by
   intro j x hx
   have hj : j < len := by
    have := (List.getElem?_eq_some_iff.1 hx).1
    omega
   rw [hget len (Nat.le_refl _) j hj] at hx
   exact ⟨hj, hx⟩
  refine ⟨some a, cp, (List.range len).filterMap f, by rw [hlen], by rw [hlen]; exact hl, hm, ⟨rfl, ?_, fun _ => ⟨a, rfl, fun j x hx => ?_⟩⟩, fun x hx => ?_⟩
  ·rw [hlen]
   have := Nat.le_trans hl hm
   simpa [maxLen] using this
  ·obtain ⟨hj, e⟩ := hmem j x hx
   obtain ⟨x', cs, e', h1, hk, hp⟩ := hf j hj
   rw [e] at e'
   obtain rfl := Option.some.inj e'
   obtain ⟨_, hcl, hat⟩ := World.cells?_some h1
   refine ⟨cs, d.K_len hk, hk, fun i u hu => ?_⟩
   have hil : i < d.sz := by
    have := (List.getElem?_eq_some_iff.1 hu).1
    rw [d.K_len hk] at this
    exact this
   rw [← Go.Deep.add_add, hat i hil]
   exact hu
  ·obtain ⟨j, hj, e⟩ := List.getElem_of_mem hx
   obtain ⟨hjl, e2⟩ := hmem j x (by rw [List.getElem?_eq_getElem hj, e])
   obtain ⟨x', cs, e', _, _, hp⟩ := hf j hjl
   rw [e2] at e'
   obtain rfl := Option.some.inj e'
   exact hp
end Go.Proofs.Ytekenddkoahjgaa.Op
