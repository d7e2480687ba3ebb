import Derived.Test.YtcjbdfhofpfooaaZGF
import Derived.Test.YtcjbdfhofpfooaaZGR
import Derived.RangeFuncNested
import Derived.RangeFuncBound
import Derived.RangeFuncCalls
import Derived.RangeFuncLeaves
import Derived.RangeFuncBox
import Derived.Maps.OwnIn
import Derived.RangeFuncMany
import Derived.RangeFuncOne
import Derived.Shelf.Abstract
import Derived.Shelf.RegionOpen
import Derived.WalkKit
import Derived.OwnWalkIn
import Derived.TacticsInMore
import Derived.RegionIn
import Derived.LoopNIn
import Derived.LoopIn
import Derived.OrdersHeld
import Derived.Deep.RegionHeld
import Derived.OrdersIn
import Derived.Maps.AppendAt
import Derived.KernelRfl
import Derived.StillTailTactics
import Derived.Outline
import Derived.RegionTactic
import Derived.ChangeAlike
import Derived.BigRegion
import Derived.Deep.RegionWith
import Derived.LoopTactic
import Derived.BigQuiet
import Derived.Lib.Hide
/- Layer 18: the walks of package grammar (part GG). -/
namespace Go.Proofs.Ytcjbdfhofpfooaa.Gm
open Go.RowKit Go.Maps Go.Shelf Go.Proofs
set_option linter.unusedVariables false
set_option linter.unusedSimpArgs false
attribute [local go_sem] Oper.semAt_some
/-! ## grammar.Run -/
/-- Which length a number's run has, and which of these it is. -/
def findR (L : Nat) : Nat → Nat → Nat → Option (Nat × Nat)
  | 0, _, _ => none
  | f + 1, i, m => if m < L ^ i then some (i, m) else findR L f (i + 1) (m - L ^ i)
def runStep (l : List In) (st : List In × Nat) (p : Nat) : List In × Nat := (st.1.set p (l.getD (st.2 % l.length) default), st.2 / l.length)
def runRow (l : List In) (i m : Nat) (ps : List Nat) : List In × Nat := ps.foldl (runStep l) (List.replicate i default, m)
def runv (c : Int) (l : List In) (len n : Int) : List In × Int :=
  if c ≠ 0 then ([], c) else if n < 0 then ([], 1) else match findR l.length (len.toNat + 1) 0 n.toNat with
    | none => ([], 1)
    | some (i, m) => ((runRow l i m (downTo i 0)).1, 0)
theorem own_baseN {W : World} {base g n cap : Nat} {l : List Int} (h : OwnN W base (.slice (some ⟨g, 0, none⟩) n cap) l) : base ≤ g := by
  rcases h.2 with ⟨h1, _⟩ | ⟨g', cap', cur, e, hb, _⟩
  · simp at h1
  · have e1 := (Value.slice.inj e).1
    simp at e1
    omega
def FR (N K M i m : Nat) : Prop := findR N (K + 1 - i) i m = findR N (K + 1) 0 M
/-- What the loop over the lengths keeps. -/
structure RunI (w : World) (n0 bl N K gr cap cap3 : Nat) (o : Option Addr) (l : List In) (m : Nat) (W : World) : Prop where
  n : Boxed W (n0 + 1) 3 (.int .i64 (m : Int))
  bx : Boxed W bl 22 (.slice o N cap)
  own : OwnI W n0 (.slice o N cap) l
  pw : OwnN W (bl + 1) (.slice (some ⟨gr, 0, none⟩) (K + 1) cap3) (pows N (K + 1))
  bel : Below n0 w W
  lt : n0 + 1 < bl
  gb : bl + 1 ≤ gr
theorem RunI.setn {w : World} {n0 bl N K gr cap cap3 : Nat} {o : Option Addr} {l : List In} {m m' : Nat} {W : World} (h : RunI w n0 bl N K gr cap cap3 o l m W) : RunI w n0 bl N K gr cap cap3 o l m' (W.setCell ⟨n0 + 1, 0, none⟩ (.int .i64 (m' : Int))) := by
  have hlt := h.lt
  have hg := h.gb
  exact ⟨h.n.set _, h.bx.kept (grownBy_setCell' W _ _) (fun e => by have := Option.some.inj e; omega), World.ownsRow.kept h.own (grownBy_setCell' W _ _) (.inr (h.n.not_row (by decide) h.own).symm),
    World.ownsRow.kept h.pw (grownBy_setCell' W _ _) (.inr (fun e => by simp [Value.ownBlock] at e; omega)), below_sc h.bel (by dsimp only; omega), h.lt, h.gb⟩
theorem OwnN_cell {W : World} {base g n cap : Nat} {l : List Int} (hn : n = l.length) (h : OwnN W base (.slice (some ⟨g, 0, none⟩) n cap) l) (j : Nat) (x : Int) (hx : l[j]? = some x) : W.cell? ⟨g, j, none⟩ = some (.int .i64 x) := by
  subst hn
  refine (World.ownsRow.cellAt h j (by have := (List.getElem?_eq_some_iff.1 hx).1; omega)).trans ?_
  simp [hx]
theorem RunI.grown {w : World} {n0 bl N K gr cap cap3 : Nat} {o : Option Addr} {l : List In} {m : Nat} {W W' : World} (h : RunI w n0 bl N K gr cap cap3 o l m W) (hg : W.grownBy W' none) : RunI w n0 bl N K gr cap cap3 o l m W' :=
  ⟨h.n.kept hg (by simp), h.bx.kept hg (by simp), World.ownsRow.kept h.own hg (by cases e : (Value.slice o N cap).ownBlock <;> simp), World.ownsRow.kept h.pw hg (.inr (by simp [Value.ownBlock])), h.bel.grown hg (by have := h.n.lt; omega) (fun k e => by cases e), h.lt, h.gb⟩
theorem wpListIn_make_full {F : Fence} {nf : Nat} {P : Program} {w : World} {ops : Array Oper} {rest : List Oper} {o : Oper} {a : Act} {Q : Exit → Act → World → Prop}
    (hg : o.guard = none) (l c : Operand) (t : TypeId) (hop : o.op = Op.makeSlice t l c)
    (base : Nat) (e : TypeId) (i : TypeInfo) (z : Value) (size : Nat) (h1 : P.underlying t = some (.slice e)) (h2 : P.info? e = some i) (h3 : i.zero = some z) (h4 : i.size = size)
    (kl kc : IntKind) (L C : Int) (n : Nat) (hl : a.eval l = .int kl L) (hc : a.eval c = .int kc C) (hL : L = (n : Int)) (hC : C = (n : Int)) (b2 : i.bytes * n ≤ 281474976710656) (b3 : n ≤ maxLen) (b4 : base ≤ w.heap.size)
    (hK : ∀ w', w'.ownsRow base e size (.slice (some ⟨w.heap.size, 0, none⟩) n n) n (madeCells z.cells (n * size)).toList → w.grownBy w' none → wpListIn F nf P ops Q rest (a.put o.dst (.slice (some ⟨w.heap.size, 0, none⟩) n n)) w') :
    wpListIn F nf P ops Q (o :: rest) a w := by
  refine wpListIn_plain hg fun K hK' => ?_
  obtain ⟨w', hrun, r1, r2⟩ := run_make_full (P := P) w base t e i z size h1 h2 h3 h4 kl kc n b2 b3 b4
  subst hL
  subst hC
  unfold Oper.wpIn
  refine ⟨?_, ?_⟩
  · simp [Oper.about, hop]
  · rw [Oper.semAt_plain F _ _ (by rw [hop]; intro c hc'; cases hc')]
    simp [execOp, hop, hl, hc, hrun, Result.andThen]
    exact hK' _ _ (hK w' r1 r2)
theorem made_ivs (i : Nat) : (madeCells (Value.agg #[.int .i64 0, .int .i64 0, .int .i64 0, .int .i64 0, .int .i64 0]).cells (i * 5)).toList = ivs (List.replicate i default) := by
  apply List.ext_getElem?
  intro j
  by_cases h : j < i * 5
  · obtain ⟨x, hx⟩ : ∃ x, (List.replicate i (default : In))[j / 5]? = some x := ⟨_, List.getElem?_eq_getElem (by simp; omega)⟩
    obtain ⟨e0, e1, e2, e3, e4⟩ := ivs_get _ _ _ hx
    have hd : x = default := by
      have := List.mem_of_getElem? hx
      simp at this; exact this.2
    subst hd
    have hl : (madeCells (Value.agg #[.int .i64 0, .int .i64 0, .int .i64 0, .int .i64 0, .int .i64 0]).cells (i * 5)).toList[j]? = some (.int .i64 0) := by
      have h5 : j % 5 < 5 := Nat.mod_lt _ (by decide)
      simp [madeCells, h, Value.cells]
      have : j % 5 = 0 ∨ j % 5 = 1 ∨ j % 5 = 2 ∨ j % 5 = 3 ∨ j % 5 = 4 := by omega
      rcases this with q | q | q | q | q <;> simp [q]
    rw [hl]
    have h5 : j % 5 = 0 ∨ j % 5 = 1 ∨ j % 5 = 2 ∨ j % 5 = 3 ∨ j % 5 = 4 := by omega
    rcases h5 with q | q | q | q | q
    · rw [show j = j / 5 * 5 by omega]; exact e0.symm
    · rw [show j = j / 5 * 5 + 1 by omega]; exact e1.symm
    · rw [show j = j / 5 * 5 + 2 by omega]; exact e2.symm
    · rw [show j = j / 5 * 5 + 3 by omega]; exact e3.symm
    · rw [show j = j / 5 * 5 + 4 by omega]; exact e4.symm
  · rw [List.getElem?_eq_none (by simp [madeCells]; omega), List.getElem?_eq_none (by rw [ivs_length]; simp; omega)]
theorem own_ltI {W : World} {base g n cap k s : Nat} {T : TypeId} {xs : List Value} (h : W.ownsRow base T s (.slice (some ⟨g, 0, none⟩) n cap) k xs) : g < W.heap.size := by
  rcases h.2 with ⟨h1, _⟩ | ⟨g', cap', cur, e, hb, hg, _⟩
  · simp at h1
  · have e1 := (Value.slice.inj e).1
    simp at e1
    rw [e1]
    exact (Array.getElem?_eq_some_iff.1 hg).1
theorem own_ltK {W : World} {base g : Nat} {v : Value} {l : List In} (h : OwnI W base v l) (hk : v.ownBlock = some g) : g < W.heap.size := by
  rcases h.2 with ⟨rfl, _⟩ | ⟨g', cap', cur, rfl, hb, hg, _⟩
  · simp [Value.ownBlock] at hk
  · obtain rfl : g' = g := by simpa [Value.ownBlock] using hk
    exact (Array.getElem?_eq_some_iff.1 hg).1
/-- What a round of the loop from behind keeps. -/
structure BkI (w : World) (n0 bl N cap i go bo Bs m : Nat) (o : Option Addr) (l : List In) (ps : List Nat) (X : World) : Prop where
  n : Boxed X (n0 + 1) 3 (.int .i64 ((runRow l i m ps).2 : Int))
  bx : Boxed X bl 22 (.slice o N cap)
  own : OwnI X n0 (.slice o N cap) l
  ob : Boxed X bo 22 (.slice (some ⟨go, 0, none⟩) i i)
  sb : Boxed X Bs 22 (.slice (some ⟨go, 0, none⟩) i i)
  row : OwnI X n0 (.slice (some ⟨go, 0, none⟩) i i) (runRow l i m ps).1
  ne : (Value.slice o N cap).ownBlock ≠ some go
  bel : Below n0 w X
  lt : n0 + 1 < bl ∧ n0 + 1 < bo ∧ n0 + 1 < Bs ∧ n0 + 1 < go
theorem boxed_rowN {X Y : World} {B : Nat} {t : TypeId} {v : Value} {row : Option Nat} (h : Boxed X B t v) (hg : X.grownBy Y row) (hr : ∀ r, row = some r → ∃ o : Obj, X.heap[r]? = some o ∧ o.isCells = false) : Boxed Y B t v :=
  h.kept hg (fun e => by
    obtain ⟨o, ho, hc⟩ := hr B e.symm
    rw [show X.heap[B]? = _ from h] at ho
    cases ho
    cases hc)
theorem BkI.row' {w : World} {n0 bl N cap i go bo Bs m n2 : Nat} {o : Option Addr} {l : List In} {ps : List Nat} {X Y : World} {row : Option Nat} (h : BkI w n0 bl N cap i go bo Bs m o l ps X) (hn : n0 ≤ n2) (hg : X.grownBy Y row) (hr : ∀ r, row = some r → n2 ≤ r ∧ ∃ o : Obj, X.heap[r]? = some o ∧ o.isCells = false) : BkI w n0 bl N cap i go bo Bs m o l ps Y := by
  have hr' : ∀ r, row = some r → ∃ o : Obj, X.heap[r]? = some o ∧ o.isCells = false := fun r e => (hr r e).2
  exact ⟨boxed_rowN h.n hg hr', boxed_rowN h.bx hg hr', own_rowN h.own hg hr', boxed_rowN h.ob hg hr', boxed_rowN h.sb hg hr', own_rowN h.row hg hr', h.ne, h.bel.grown hg (by have := h.n.lt; omega) (fun k e => by have := (hr k e).1; omega), h.lt⟩
theorem runRow_len (l : List In) (i m : Nat) (ps : List Nat) : (runRow l i m ps).1.length = i := by
  unfold runRow
  have : ∀ (ps : List Nat) (st : List In × Nat), (ps.foldl (runStep l) st).1.length = st.1.length := by
    intro ps
    induction ps with
    | nil => intro st; rfl
    | cons p ps ih => intro st; rw [List.foldl_cons, ih]; simp [runStep]
  rw [this]; simp
theorem runRow_snoc (l : List In) (i m : Nat) (ps : List Nat) (p : Nat) : runRow l i m (ps ++ [p]) = runStep l (runRow l i m ps) p := by
  unfold runRow; rw [List.foldl_append]; rfl
theorem runRow_le (l : List In) (i m : Nat) (ps : List Nat) : (runRow l i m ps).2 ≤ m := by
  unfold runRow
  have : ∀ (ps : List Nat) (st : List In × Nat), (ps.foldl (runStep l) st).2 ≤ st.2 := by
    intro ps
    induction ps with
    | nil => intro st; exact Nat.le_refl _
    | cons p ps ih => intro st; rw [List.foldl_cons]; exact Nat.le_trans (ih _) (Nat.div_le_self _ _)
  exact this ps _
theorem ivs_set (st : List In) (p : Nat) (y : In) (h : p < st.length) :
    (((((ivs st).set (p * 5) (.int .i64 y.op)).set (p * 5 + 1) (.int .i64 y.rd)).set (p * 5 + 2) (.int .i64 y.a)).set (p * 5 + 3) (.int .i64 y.b)).set (p * 5 + 4) (.int .i64 y.m) = ivs (st.set p y) := by
  induction st generalizing p with
  | nil => simp at h
  | cons x st ih =>
    cases p with
    | zero => simp [ivs, iv]
    | succ p =>
      have := ih p (by simpa using h)
      simp only [ivs, iv, List.flatMap_cons, List.set_cons_succ] at this ⊢
      rw [← this, show (p + 1) * 5 = p * 5 + 5 by omega, show p * 5 + 5 + 1 = (p * 5 + 1) + 5 by omega, show p * 5 + 5 + 2 = (p * 5 + 2) + 5 by omega, show p * 5 + 5 + 3 = (p * 5 + 3) + 5 by omega, show p * 5 + 5 + 4 = (p * 5 + 4) + 5 by omega]
      rfl
/-- Instruction y stored at place p of a row in block g. -/
def set5w (W : World) (g p : Nat) (y : In) : World := (((((W.setCell ⟨g, p * 5, none⟩ (.int .i64 y.op)).setCell ⟨g, p * 5 + 1, none⟩ (.int .i64 y.rd)).setCell ⟨g, p * 5 + 2, none⟩ (.int .i64 y.a)).setCell ⟨g, p * 5 + 3, none⟩ (.int .i64 y.b)).setCell ⟨g, p * 5 + 4, none⟩ (.int .i64 y.m)).drew
theorem ownsRow_drew {W : World} {b n s : Nat} {T : TypeId} {v : Value} {xs : List Value} (h : W.ownsRow b T s v n xs) : W.drew.ownsRow b T s v n xs := h
theorem grownBy_drew {W X : World} {row : Option Nat} (h : W.grownBy X row) : W.grownBy X.drew row := h.trans ⟨rfl, rfl, rfl, Nat.le_refl _, fun _ _ _ => rfl⟩
theorem set5w_row {W : World} {base g N cap p : Nat} {st : List In} {y : In} (h : OwnI W base (.slice (some ⟨g, 0, none⟩) N cap) st) (hN : st.length = N) (hp : p < N) : OwnI (set5w W g p y) base (.slice (some ⟨g, 0, none⟩) N cap) (st.set p y) ∧ W.grownBy (set5w W g p y) (some g) := by
  have h' : W.ownsRow base 25 5 (.slice (some ⟨g, 0, none⟩) N cap) N (ivs st) := by
    have := h
    unfold OwnI at this
    rw [hN] at this
    exact this
  obtain ⟨s0, g0⟩ := World.ownsRow.stored h' (p * 5) (.int .i64 y.op)
  obtain ⟨s1, g1⟩ := World.ownsRow.stored s0 (p * 5 + 1) (.int .i64 y.rd)
  obtain ⟨s2, g2⟩ := World.ownsRow.stored s1 (p * 5 + 2) (.int .i64 y.a)
  obtain ⟨s3, g3⟩ := World.ownsRow.stored s2 (p * 5 + 3) (.int .i64 y.b)
  obtain ⟨s4, g4⟩ := World.ownsRow.stored s3 (p * 5 + 4) (.int .i64 y.m)
  rw [ivs_set st p y (by omega)] at s4
  refine ⟨?_, ?_⟩
  · unfold OwnI
    rw [List.length_set, hN]
    unfold set5w
    exact ownsRow_drew s4
  · unfold set5w
    exact grownBy_drew ((g0.trans g1).trans ((g2.trans g3).trans g4))
theorem BkI.step {w : World} {n0 bl N cap i go bo Bs m p : Nat} {o : Option Addr} {l : List In} {ps : List Nat} {X : World} {y : In} (h : BkI w n0 bl N cap i go bo Bs m o l ps X) (hN : N = l.length) (hy : l[(runRow l i m ps).2 % N]? = some y) (hp : p < i) :
    BkI w n0 bl N cap i go bo Bs m o l (ps ++ [p]) ((set5w X go p y).setCell ⟨n0 + 1, 0, none⟩ (.int .i64 ((((runRow l i m ps).2 / N : Nat)) : Int))) ∧ (set5w X go p y).heap[n0 + 1]? = X.heap[n0 + 1]? ∧ (set5w X go p y).heap[bl]? = X.heap[bl]? ∧ KeepsOthers X ((set5w X go p y).setCell ⟨n0 + 1, 0, none⟩ (.int .i64 ((((runRow l i m ps).2 / N : Nat)) : Int))) := by
  obtain ⟨s, g⟩ := set5w_row (y := y) h.row (runRow_len l i m ps) hp
  have hne (b : Nat) (v : Value) (T : TypeId) (hb : Boxed X b T v) (hT : T ≠ 25) : some b ≠ some go := fun e => (hb.not_row hT h.row) (by rw [e]; rfl)
  have n1 := hne _ _ _ h.n (by decide)
  have n2 := hne _ _ _ h.bx (by decide)
  have n3 := hne _ _ _ h.ob (by decide)
  have n4 := hne _ _ _ h.sb (by decide)
  have hlt := h.lt
  have e : runRow l i m (ps ++ [p]) = ((runRow l i m ps).1.set p y, (runRow l i m ps).2 / N) := by
    rw [runRow_snoc]
    unfold runStep
    rw [← hN, List.getD_eq_getElem?_getD, hy]
    rfl
  have hg := grownBy_setCell' (set5w X go p y) (n0 + 1) (.int .i64 ((((runRow l i m ps).2 / N : Nat)) : Int))
  have k1 := h.n.kept g n1
  refine ⟨⟨?_, (h.bx.kept g n2).kept hg (fun e => by have := Option.some.inj e; omega), ?_, (h.ob.kept g n3).kept hg (fun e => by have := Option.some.inj e; omega), (h.sb.kept g n4).kept hg (fun e => by have := Option.some.inj e; omega), ?_, h.ne, ?_, h.lt⟩, ?_, ?_, ?_⟩
  · rw [e]; exact k1.set _
  · have q := World.ownsRow.kept h.own g (.inr h.ne)
    exact World.ownsRow.kept q hg (.inr (k1.not_row (by decide) q).symm)
  · rw [e]
    exact World.ownsRow.kept s hg (.inr (k1.not_row (by decide) s).symm)
  · have := h.n.lt
    exact (h.bel.grown g (by omega) (fun k e => by cases e; omega)).setCell (p := ⟨n0 + 1, 0, none⟩) (by dsimp only; omega) _
  · exact g.block _ h.n.lt n1
  · exact g.block _ h.bx.lt n2
  · refine KeepsOthers.trans (KeepsOthers.of_grownBy g (fun j o ej hj => ?_)) (KeepsOthers.setCell _ _ _)
    cases ej
    rcases h.row.2 with ⟨h1, _⟩ | ⟨g', cap', cur, e', hb, hg', _⟩
    · simp at h1
    · have e1 := (Value.slice.inj e').1
      simp at e1
      rw [e1, hg'] at hj
      cases hj
      rfl
set_option maxRecDepth 100000 in
set_option maxHeartbeats 8000000 in
theorem Run_calls (frm : Int → Int) (rgt : In → Bool) (knd : Int → Bool) (hF : FormC frm) (hRt : RightC rgt) (hK : KindC knd) (o0 o1 o2 : Option Addr) (m0 m1 m2 c0 c1 c2 : Nat) (len n : Int) (w : World) (ops regs imms : List Int)
    (ho : ReadN w.heap.size w (.slice o0 m0 c0) ops) (hr : ReadN w.heap.size w (.slice o1 m1 c1) regs) (hi : ReadN w.heap.size w (.slice o2 m2 c2) imms) (l0 : ops.length ≤ 99) (l1 : regs.length ≤ 99) (l2 : imms.length ≤ 99) (hn : n ≤ 9223372036854775807) :
    Calls Try.prog 23 #[.agg #[.slice o0 m0 c0, .slice o1 m1 c1, .slice o2 m2 c2, .int .i64 len], .int .i64 n] w fun e w' => ∃ v, e = .returned (.tuple #[v, .int .i64 (runv (chkv frm rgt knd ops regs imms len) (insv frm rgt knd ops regs imms len) len n).2]) ∧ OwnI w' w.heap.size v (runv (chkv frm rgt knd ops regs imms len) (insv frm rgt knd ops regs imms len) len n).1 ∧ Below w.heap.size w w' := by
  have HI := Lib.hid (fun w' hb => Insts_calls frm rgt knd hF hRt hK o0 o1 o2 m0 m1 m2 c0 c1 c2 len w' ops regs imms ((ho.below hb).mono hb.size) ((hr.below hb).mono hb.size) ((hi.below hb).mono hb.size) l0 l1 l2)
  have hlen : chkv frm rgt knd ops regs imms len = 0 → (0 ≤ len ∧ len ≤ 3) ∧ (insv frm rgt knd ops regs imms len).length ≤ 4096 := by
    intro h
    unfold insv
    rw [if_pos h]
    unfold chkv at h
    split at h
    · cases h
    · rename_i h1
      split at h
      · cases h
      · simp only [not_or] at h1
        exact ⟨by omega, by omega⟩
  generalize chkv frm rgt knd ops regs imms len = cv at *
  generalize insv frm rgt knd ops regs imms len = l at *
  clear hF hRt hK ho hr hi
  have HLEN := Lib.hid hlen
  clear hlen
  refine (callsIn_wide (n := 9)).1 ?_
  refine callsIn_of_wp_marks Try.func23 rfl trivial ?_ rfl
  simp only [Try.ntmps23, List.size_toArray, List.length_cons, List.length_nil, Nat.reduceAdd, Nat.reduceSub, Array.replicate_succ, Array.replicate_zero, List.push_toArray, List.append_toArray, List.nil_append, List.cons_append]
  by_cases hc : cv = 0
  · subst hc
    obtain ⟨⟨hl0, hl3⟩, hl4⟩ := HLEN.out rfl
    clear HLEN
    have hb0 : Below w.heap.size w ((w.alloc (.cells #[.slice o0 m0 c0, .slice o1 m1 c1, .slice o2 m2 c2, .int .i64 len] 31)).alloc (.cells #[.int .i64 n] 3)) := ((Below.refl _ w).alloc (Nat.le_refl _) _).alloc (by simp) _
    have HB0 := Lib.hid hb0
    clear hb0
    by_cases hneg : n < 0
    · have hv : runv 0 l len n = ([], 1) := by unfold runv; rw [if_neg (by simp), if_pos hneg]
      rw [hv]
      clear hv
      gi_wp2
      refine ⟨trivial, ?_⟩
      refine (callsIn_wide.2 (HI.out _ HB0.out)).mono ?_
      rintro e w1 ⟨v, rfl, hO, hbb⟩
      obtain ⟨o, cap, hv, _⟩ := own_optI hO
      generalize l.length = N at hv
      subst hv
      have k1 : w1.cell? ⟨w.heap.size + 1, 0, none⟩ = some (.int .i64 n) := ((bcell hbb).1 _ _ (by first | (simp; done) | (simp; omega))).trans (by go_simp)
      have hz : w.heap.size + 1 < w1.heap.size := by have := hbb.size; simp at this; omega
      have HB1 : Hid (Below w.heap.size w w1) := Lib.hid (HB0.out.trans (hbb.mono (by simp; omega)))
      clear hO hbb
      gi_wp2
      refine ⟨_, by simp [results, Try.f23, go_sem], _, rfl, World.ownsRow_nil _ _ _ _, ?_⟩
      exact HB1.out.alloc HB1.out.size _
    · obtain ⟨M, rfl⟩ := Int.eq_ofNat_of_zero_le (show 0 ≤ n by omega)
      obtain ⟨K, rfl⟩ := Int.eq_ofNat_of_zero_le hl0
      gi_wp2
      refine ⟨trivial, ?_⟩
      refine (callsIn_wide.2 (HI.out _ HB0.out)).mono ?_
      rintro e w1 ⟨v, rfl, hO, hbb⟩
      obtain ⟨o, cap, hv, _⟩ := own_optI hO
      obtain ⟨N, hN⟩ : ∃ N, N = l.length := ⟨_, rfl⟩
      rw [← hN] at hv
      subst hv
      have k1h : w1.heap[w.heap.size + 1]? = some (.cells #[.int .i64 (M : Int)] 3 (0, 0)) := by
        have e := World.alloc_heap_new (w.alloc (.cells #[.slice o0 m0 c0, .slice o1 m1 c1, .slice o2 m2 c2, .int .i64 (K : Int)] 31)) (.cells #[.int .i64 (M : Int)] 3)
        rw [World.size_alloc] at e
        exact (hbb.block _ (by simp)).trans e
      have hO0 : OwnI w1 w.heap.size (.slice o N cap) l := OwnI_lower hO (by simp; omega)
      have K1H := Lib.hid k1h
      have HO0 := Lib.hid hO0
      clear k1h hO0
      have k0 : w1.cell? ⟨w.heap.size, 3, none⟩ = some (.int .i64 (K : Int)) := ((bcell hbb).1 _ _ (by first | (simp; done) | (simp; omega))).trans (by go_simp)
      have k1 : w1.cell? ⟨w.heap.size + 1, 0, none⟩ = some (.int .i64 (M : Int)) := ((bcell hbb).1 _ _ (by first | (simp; done) | (simp; omega))).trans (by go_simp)
      have hz : w.heap.size + 1 < w1.heap.size := by have := hbb.size; simp at this; omega
      have HB1 : Hid (Below w.heap.size w w1) := Lib.hid (HB0.out.trans (hbb.mono (by simp; omega)))
      have HO := Lib.hid hO
      have HN := Lib.hid hN
      clear hO hbb hN
      have hz0 : w.heap.size < w1.heap.size := by omega
      gi_wp2
      refine ⟨trivial, ?_⟩
      refine (callsIn_wide.2 (runs_calls N K (by rw [HN.out]; exact hl4) (by omega) _)).mono ?_
      rintro e w3 ⟨v3, rfl, hR, hbb⟩
      obtain ⟨o3, cap3, hv3, hg3⟩ := own_optN hR
      rw [pows_len] at hv3 hg3
      obtain ⟨gr, rfl⟩ := hg3 (by omega)
      subst hv3
      have j0 : w3.heap[w.heap.size + 1]? = some (.cells #[.int .i64 (M : Int)] 3 (0, 0)) := by
        refine (hbb.block _ (by simp; omega)).trans ((Below.heap_alloc w1 _ _ hz).trans K1H.out)
      have j1 : w3.heap[w1.heap.size]? = some (.cells #[.slice o N cap] 22 (0, 0)) := (hbb.block _ (by simp)).trans (World.alloc_heap_new w1 _)
      have hOl : OwnI w3 w.heap.size (.slice o N cap) l := OwnI.below (World.ownsRow.alloc HO0.out _) hbb
      have hB3 : Below w.heap.size w w3 := (HB1.out.alloc HB1.out.size _).trans (hbb.mono (by have := HB1.out.size; simp; omega))
      have hzz : w1.heap.size + 1 ≤ w3.heap.size := by have := hbb.size; simpa using this
      have HR := Lib.hid hR
      have J0 := Lib.hid j0; have J1 := Lib.hid j1; have HOL := Lib.hid hOl; have HB3 := Lib.hid hB3
      clear hR hbb j0 j1 hOl hB3 k0 k1
      obtain ⟨n0, hn0⟩ : ∃ n0, n0 = w.heap.size := ⟨_, rfl⟩
      obtain ⟨bl, hbl⟩ : ∃ bl, bl = w1.heap.size := ⟨_, rfl⟩
      rw [← hn0, ← hbl]
      rw [← hn0] at hz0 hz
      rw [← hbl] at hz0 hz hzz
      have HN0 := Lib.hid hn0
      have HBL := Lib.hid hbl
      clear hn0 hbl
      have hRI : RunI w n0 bl N K gr cap cap3 o l M w3 := by
        have := HR.out
        simp only [World.size_alloc] at this
        rw [← HBL.out] at this
        exact ⟨by rw [HN0.out]; exact J0.out, by rw [HBL.out]; exact J1.out, by rw [HN0.out]; exact HOL.out, this, by rw [HN0.out]; exact HB3.out, hz, own_baseN this⟩
      have HRI := Lib.hid hRI
      clear hRI
      gi_wp2
      gi_loopw [28] (fun s wr => ∃ i m : Nat, i ≤ K + 1 ∧ s = .int .i64 (i : Int) ∧ FR N K M i m ∧ m ≤ M ∧ RunI w n0 bl N K gr cap cap3 o l m wr) (fun s _ => K + 1 - (intOf s).toNat)
      case atStart => exact ⟨0, M, Nat.zero_le _, rfl, rfl, Nat.le_refl _, HRI.out⟩
      case round =>
        obtain ⟨i, m, hi, rfl, HF, hm, hI⟩ := hrel
        have HF := Lib.hid HF
        have HI2 := Lib.hid hI
        have c1 := hI.n.cell
        have f1 := hI.n.frozen
        have c2 := hI.bx.cell
        have s1 := hI.bx.lt
        have s2 := hI.n.lt
        by_cases hlt : i < K + 1
        · have hp := OwnN_cell (pows_len N (K + 1)).symm hI.pw i _ (pows_get N (K + 1) i hlt)
          have hpb := pow_bd N i (by rw [HN.out]; exact hl4) (by omega)
          obtain ⟨P, hP⟩ : ∃ P, P = N ^ i := ⟨_, rfl⟩
          rw [← hP] at hp hpb
          have HP := Lib.hid hP
          clear hI hP
          by_cases hmp : P ≤ m
          · have em : ((m : Int) - (P : Int)) = ((m - P : Nat) : Int) := by omega
            have EM := Lib.hid em
            clear em
            gi_wp2
            refine ⟨⟨i + 1, m - P, by omega, by go_num, ?_, by omega, ?_⟩, by simp [intOf]; omega⟩
            · unfold FR
              have hF := HF.out
              unfold FR at hF
              rw [← hF, show K + 1 - i = (K + 1 - (i + 1)) + 1 by omega]
              show _ = if m < N ^ i then _ else _
              rw [if_neg (by rw [← HP.out]; omega), HP.out]
            · rw [EM.out]
              exact HI2.out.setn
          · have hv : runv 0 l (K : Int) (M : Int) = ((runRow l i m (downTo i 0)).1, 0) := by
              unfold runv
              rw [if_neg (by simp), if_neg (by omega)]
              have hF := HF.out
              unfold FR at hF
              rw [Int.toNat_natCast, Int.toNat_natCast, ← HN.out, ← hF, show K + 1 - i = (K - i) + 1 by omega]
              simp only [findR]
              rw [if_pos (by rw [← HP.out]; omega)]
            have HV := Lib.hid hv
            clear hv
            obtain ⟨i0, hi0, hz0, hz1, hz2⟩ := info_parts infoI
            gi_wp2_with (gi_at_make; refine hold_ ?_)
            intro _
            refine wpListIn_make_full rfl (.tmp 39) (.tmp 39) 22 rfl n0 25 i0 _ 5 Try.underlying22 hi0 hz0 hz1 .i64 .i64 _ _ i rfl rfl rfl rfl (by rw [hz2]; omega) (by unfold maxLen; omega) (by omega) ?_
            intro W1 hO1 hg1
            rw [made_ivs] at hO1
            have HO1 := Lib.hid hO1
            have HG1 := Lib.hid hg1
            have HI3 := Lib.hid (HI2.out.grown hg1)
            have hs1 : wr.heap.size ≤ W1.heap.size := hg1.size
            clear hO1 hg1 hp c1 c2 f1
            have c1 := HI3.out.n.cell
            have c2 := HI3.out.bx.cell
            gi_wp2
            refine ⟨trivial, ?_⟩
            refine (callsIn_wide.2 (Backward_calls _ _ _ _)).mono ?_
            rintro e w5 ⟨rfl, hw5⟩
            obtain ⟨go, hgo⟩ : ∃ go, go = wr.heap.size := ⟨_, rfl⟩
            obtain ⟨bo, hbo⟩ : ∃ bo, bo = W1.heap.size := ⟨_, rfl⟩
            obtain ⟨Bs, hBs⟩ : ∃ Bs, Bs = W1.heap.size + 1 := ⟨_, rfl⟩
            have hst : BkI w n0 bl N cap i go bo Bs m o l [] w5 := by
              subst hw5
              have hgL : ∀ u, W1.grownBy u none → True := fun _ _ => trivial
              have hg2 := (World.grownBy_alloc W1 (.cells #[.slice (some ⟨wr.heap.size, 0, none⟩) i i] 22) none).trans (World.grownBy_alloc (W1.alloc (.cells #[.slice (some ⟨wr.heap.size, 0, none⟩) i i] 22)) (.cells #[.slice (some ⟨wr.heap.size, 0, none⟩) i i] 22) none)
              have hI4 := HI3.out.grown hg2
              have hgl : go < W1.heap.size := by rw [hgo]; exact own_ltI HO1.out
              refine ⟨hI4.n, hI4.bx, hI4.own, ?_, ?_, ?_, ?_, hI4.bel, ⟨hI4.lt, by omega, by omega, by omega⟩⟩
              · rw [hbo, hgo]; exact (Boxed.new W1 _ _).alloc _
              · rw [hBs, hgo]
                have := Boxed.new (W1.alloc (.cells #[.slice (some ⟨wr.heap.size, 0, none⟩) i i] 22)) 22 (.slice (some ⟨wr.heap.size, 0, none⟩) i i)
                rw [World.size_alloc] at this
                exact this
              · rw [hgo]
                have h3 : OwnI W1 n0 (.slice (some ⟨wr.heap.size, 0, none⟩) i i) (List.replicate i default) := by unfold OwnI; rw [List.length_replicate]; exact HO1.out
                exact World.ownsRow.kept h3 hg2 (.inr (by simp [Value.ownBlock]))
              · intro e
                have := own_ltK HI2.out.own e
                omega
            have HST := Lib.hid hst
            have hBs' : w5.heap.size = Bs + 1 := by rw [hw5, hBs]; simp
            rw [← hgo, ← hbo]
            have e1 : (W1.alloc (.cells #[.slice (some ⟨go, 0, none⟩) i i] 22)).heap.size = Bs := by rw [hBs]; simp
            rw [e1]
            have hlts := hst.lt
            have s5 := hst.n.lt
            have s6 := hst.bx.lt
            have s7 := hst.ob.lt
            have s8 := hst.sb.lt
            clear hst hw5 hgo hbo hBs e1 HO1 HG1 hs1 c1 c2
            gi_wp2
            refine wpIn_rangeFunc_ownG rfl (by omega) (gf := 55) (lb := #[.pointer (some ⟨Bs, 0, none⟩)]) rfl trivial (enters_of Try.func55 (by kernel_rfl) rfl) (back_stops Bs n0 go i i 8 (by omega) (by omega) w5 HST.out.sb ⟨_, ?hrl, HST.out.row⟩) (fun h k => h.trans k) (fun X l' o' o'' hl hlo ho hw => ?hkb) (Below.refl _ _) (fun _ => rfl)
              (fun pre X => BkI w n0 bl N cap i go bo Bs m o l (pre.map (·.1.1)) X)
              (fun _ _ _ => False)
              (fun s X Y row hs hg hr => ?hI)
              (fun _ _ _ _ _ hs _ _ => hs)
              HST.out ?a1 ?assign ?body ?done ?stop
            case assign =>
              intro l' x X Kx hKx
              gi_wp2
              exact hKx
            case hrl => simp [runRow]
            case hkb =>
              refine ⟨World.putObj_heap_other (fun e => by omega), fun ⟨li, h1, h2⟩ => ⟨li, h1, own_rowN h2 (grownBy_putObj' X l' o'') (fun r e => by cases e; exact ⟨o', hlo, ho⟩)⟩⟩
            case hI => exact hs.row' (by omega) hg hr
            case body =>
              rintro l' pre x X hI hlt'
              obtain ⟨⟨p, xi⟩, hpi⟩ := x
              dsimp only at hpi
              have hN0 : 0 < N := by
                rcases Nat.eq_zero_or_pos N with h | h
                · exfalso
                  apply hmp
                  rw [HP.out, h, Nat.zero_pow (by omega)]
                  exact Nat.zero_le _
                · exact h
              obtain ⟨q, hq⟩ : ∃ q, q = (runRow l i m (pre.map (·.1.1))).2 := ⟨_, rfl⟩
              have hqm : q ≤ M := by rw [hq]; exact Nat.le_trans (runRow_le l i m _) hm
              have hk : q % N < l.length := by rw [← HN.out]; exact Nat.mod_lt _ hN0
              obtain ⟨y, hy⟩ : ∃ y, l[q % N]? = some y := ⟨_, List.getElem?_eq_getElem hk⟩
              obtain ⟨o', cap', e, ho'⟩ := own_optI hI.own
              have e1 := (Value.slice.inj e).1
              obtain ⟨gl, hgl⟩ := ho' (by omega)
              have hgl' : o = some ⟨gl, 0, none⟩ := e1.trans hgl
              have hIn := hI.n
              rw [← hq] at hIn
              have HQ := Lib.hid hq
              clear hq e e1 ho' hgl
              subst hgl'
              obtain ⟨y0, y1, y2, y3, y4⟩ := own_cellI HN.out.symm hI.own (q % N) y hy
              have d0 := hIn.cell
              have d1 := hI.bx.cell
              have d2 := hI.ob.cell
              have HIX := Lib.hid hI
              have HY := Lib.hid hy
              clear hI hIn hy
              obtain ⟨z, hz'⟩ : ∃ z, (runRow l i m (pre.map (·.1.1))).1[p]? = some z := ⟨_, List.getElem?_eq_getElem (by rw [runRow_len]; exact hpi)⟩
              obtain ⟨r0, r1, r2, r3, r4⟩ := own_cellI (runRow_len l i m _) HIX.out.row p z hz'
              have hrow' : X.ownsRow n0 25 5 (.slice (some ⟨go, 0, none⟩) i i) i (ivs (runRow l i m (pre.map (·.1.1))).1) := by have := HIX.out.row; unfold OwnI at this; rw [runRow_len] at this; exact this
              have f0 := World.ownsRow.frozenAt hrow' (p * 5)
              have f1 := World.ownsRow.frozenAt hrow' (p * 5 + 1)
              have f2 := World.ownsRow.frozenAt hrow' (p * 5 + 2)
              have f3 := World.ownsRow.frozenAt hrow' (p * 5 + 3)
              have f4 := World.ownsRow.frozenAt hrow' (p * 5 + 4)
              clear hz' hrow'
              obtain ⟨k, hkk⟩ : ∃ k, k = q % N := ⟨_, rfl⟩
              rw [← hkk] at y0 y1 y2 y3 y4 hk
              have HKK := Lib.hid hkk
              have htm : Int.tmod (q : Int) (N : Int) = (k : Int) := by rw [hkk]; rfl
              have hkN : k < N := by rw [hkk]; exact Nat.mod_lt _ hN0
              have hz : ((N : Int) == 0) = false := beq_eq_false_iff_ne.mpr (by omega)
              have w1_ : IntKind.i64.wrap (k : Int) = (k : Int) := by rw [IntKind.wrap_i64]; omega
              have g1_ : (k : Int) < (N : Int) := by omega
              have g2_ : (p : Int) < (i : Int) := by omega
              clear hkk
              have HP' := Lib.hid hpi
              have nn1 : go ≠ n0 + 1 := by omega
              have nn2 : go ≠ bl := fun e => HIX.out.bx.not_row (by decide) HIX.out.row (by rw [← e]; rfl)
              have nn3 : go ≠ bo := fun e => HIX.out.ob.not_row (by decide) HIX.out.row (by rw [← e]; rfl)
              have nn4 : go ≠ gl := fun e => HIX.out.ne (by rw [e]; rfl)
              gi_wp2
              refine region14 l' (n0 + 1) bl bo go gl i N cap p q k 7 y z X _ _ _ _ _ _ _ _ _ _ _ _ _ _ _ _ _ _ _ _ _ _ _ _ _ _ _ _ _ _ _ _ _ _ _ _ _ _ _ _ _ _ _ _ _ _ _ _ _ _ _ _ _ _ _ _ _ _ _ nn1 nn2 nn3 nn4 (by have := HN.out; omega) (by omega) d0 d1 d2 y0 y1 y2 y3 y4 r0 r1 r2 r3 r4 f0 f1 f2 f3 f4 htm hkN (by omega) w1_ g1_ hpi g2_ (fun W' hW' => ?_)
              have hst2 := HIX.out.step (y := y) (p := p) HN.out (by rw [← HQ.out]; exact HY.out) hpi
              rw [← HQ.out] at hst2
              obtain ⟨t1, t2, t3, t4⟩ := hst2
              have hWe : W' = set5w X go p y := hW'
              rw [← hWe] at t1 t2 t3 t4
              have a1 : W'.cell? ⟨n0 + 1, 0, none⟩ = some (.int .i64 (q : Int)) := by
                have := t2
                unfold World.cell?
                dsimp only
                rw [this]
                exact d0
              have a2 : W'.cell? ⟨bl, 0, none⟩ = some (.slice (some ⟨gl, 0, none⟩) N cap) := by
                unfold World.cell?
                dsimp only
                rw [t3]
                exact d1
              have a3 : W'.frozen? ⟨n0 + 1, 0, none⟩ = false := by
                unfold World.frozen?
                dsimp only
                rw [t2]
                exact HIX.out.n.frozen
              have a4 : n0 + 1 < W'.heap.size := by
                have := HIX.out.n
                exact (Array.getElem?_eq_some_iff.1 (t2.trans this)).1
              have hdv : Int.tdiv (q : Int) (N : Int) = ((q / N : Nat) : Int) := rfl
              have hqd : q / N ≤ q := Nat.div_le_self _ _
              obtain ⟨qd, hqd'⟩ : ∃ qd, qd = q / N := ⟨_, rfl⟩
              rw [← hqd'] at hdv hqd t1 t4
              have T1 := Lib.hid t1; have T4 := Lib.hid t4
              clear t1 t2 t3 t4 hW' hWe hqd' htm w1_ g1_ g2_ f0 f1 f2 f3 f4 r0 r1 r2 r3 r4 y0 y1 y2 y3 y4 d0 d1 d2
              gi_wp2
              refine ⟨T4.out.from _, ⟨(show _ = _ from T1.out.sb).trans (show _ = _ from HIX.out.sb).symm, fun _ => ⟨_, runRow_len l i m _, T1.out.row⟩⟩, ?_⟩
              show BkI _ _ _ _ _ _ _ _ _ _ _ _ (List.map (fun (x : BI i) => x.1.1) (pre ++ [⟨(p, xi), hpi⟩])) _
              rw [List.map_append]
              exact T1.out
            case done =>
              rintro D ys X hD hys hI hK
              have hys' : ys.map (·.1.1) = downTo i 0 := hys
              rw [hys'] at hI
              have d2 := hI.ob.cell
              have HIX := Lib.hid hI
              have HK := Lib.hid hK
              clear hI hK hys hys'
              gi_wp2
              refine ⟨by simp, .inl ⟨_, _, rfl, run_takeDeferred HK.out, ?_⟩⟩
              have hX := HIX.out.row' (Nat.le_refl _) (grownBy_putObj' X D (.deferred none)) (fun r e => by cases e; exact ⟨by omega, _, HK.out, rfl⟩)
              refine ⟨.tuple #[.slice (some ⟨go, 0, none⟩) i i, .int .i64 0], by simp [results, Try.f23, go_sem], .slice (some ⟨go, 0, none⟩) i i, by rw [HV.out], ?_, ?_⟩
              · rw [HV.out]; exact HN0.out ▸ hX.row
              · exact HN0.out ▸ hX.bel
            case stop =>
              rintro D c pre X _ _ h _
              exact h.elim
        · obtain rfl : i = K + 1 := by omega
          clear hI
          have hv : runv 0 l (K : Int) (M : Int) = ([], 1) := by
            unfold runv
            rw [if_neg (by simp), if_neg (by omega)]
            have := HF.out
            unfold FR at this
            rw [show K + 1 - (K + 1) = 0 by omega] at this
            rw [Int.toNat_natCast, Int.toNat_natCast, ← HN.out, ← this]
            rfl
          have HV := Lib.hid hv
          clear hv
          gi_wp2
          exact ⟨.tuple #[.slice none 0 0, .int .i64 1], by simp [results, Try.f23, go_sem], .slice none 0 0, by rw [HV.out], by rw [HV.out]; exact World.ownsRow_nil _ _ _ _, HN0.out ▸ HI2.out.bel⟩
  · have hb : (cv != 0) = true := bne_iff_ne.mpr hc
    have hv : runv cv l len n = ([], cv) := by unfold runv; rw [if_pos hc]
    rw [hv]
    clear hc hv
    gi_wp2
    refine ⟨trivial, ?_⟩
    refine (callsIn_wide.2 (HI.out _ (((Below.refl _ w).alloc (Nat.le_refl _) _).alloc (by simp) _))).mono ?_
    rintro e w1 ⟨v, rfl, hO, hbb⟩
    obtain ⟨o, cap, hv, _⟩ := own_optI hO
    generalize l.length = N at hv
    subst hv
    clear hO
    gi_wp2
    refine ⟨_, by simp [results, Try.f23, go_sem], _, rfl, World.ownsRow_nil _ _ _ _, ?_⟩
    exact ((((Below.refl _ w).alloc (Nat.le_refl _) _).alloc (by simp) _).trans (hbb.mono (by simp; omega))).alloc (by have := hbb.size; simp at this; omega) _
end Go.Proofs.Ytcjbdfhofpfooaa.Gm
