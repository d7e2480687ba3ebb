import Derived.Test.YtekenddkoahjgaaHIT
import Derived.Test.YtekenddkoahjgaaHIE
import Derived.WalkKit
import Derived.KernelRfl
import Derived.Below
import Derived.Outline
import Derived.LoopTactic
import Derived.Maps.Own
import Derived.Maps.OwnOps
import Derived.Maps.OwnSet
import Derived.Maps.Views
import Derived.Maps.AppendAt
import Derived.Laws.BitsLemmas
import Derived.Laws.BitsAllLaws
import Derived.Deep.LoopGhost
import Derived.Lib.Hide
import Derived.Deep.QuietTactic
import Derived.BigQuiet
import Derived.Deep.Draws
import Derived.Laws.StructEq
import Derived.Deep.Slices
import Derived.Deep.Fields
import Derived.ChangeSame
import Derived.Deep.CutBlock
import Derived.Deep.DeepCutAuto
import Derived.Deep.RegionHeld3
import Derived.StillTailTactics
import Derived.WalkSmall
import Derived.OwnWalk
import Derived.Laws.OwnMore
import Derived.Laws.BytesArg
import Derived.Laws.MakeOwn
import Derived.Laws.Tables
import Derived.Laws.Rows
import Derived.Laws.World
import Derived.Lib.SliceRun
/- Layer 8, walked: maps by address, rows of addresses, slices.Clone, slices.Compact of at most two. -/
namespace Go.Proofs.Ytekenddkoahjgaa.Bl
open Go.RowKit Go.Maps Go.Proofs
set_option maxRecDepth 100000
set_option linter.unusedVariables false
set_option linter.unusedSimpArgs false
def KU (a : Nat) : Lit := .int .u32 (a : Int)
def heldR (v : Value) : Option (DataW Value × List MemPlace) := some (.held v, [])
def KM (w : World) (b n : Nat) (g : Nat → Option Value) : Prop :=
 ∃ D : DataW Value, w.ownsMap Try.prog 24 heldR b n D ∧ ∀ a, a < 4294967296 → Maps.has D (KU a) = (g a).isSome ∧ ∀ v, g a = some v → ∀ z, D.atKey (KU a) z = .held v
theorem law : Keyed Try.prog 24 := int_keyed Try.underlying24
theorem key_wf (a : Nat) (h : a < 4294967296) : (Lit.int .u32 (a : Int)).wf = true := WalkArith.wf_u32 ⟨by omega, by omega⟩
theorem KU_key (a : Nat) (h : a < 4294967296) : keyOf Try.prog 24 (.int .u32 (a : Int)) = some (KU a) := Maps.keyOf_int_mk Try.underlying24 (key_wf a h)
theorem KU_ne {a x : Nat} (h : x ≠ a) : KU x ≠ KU a := fun e => h (by simp [KU] at e; omega)
theorem isKey_KU (a : Nat) : WideAt.IsKeyLit (KU a) := trivial
theorem KM.kept {w w' : World} {b n : Nat} {g : Nat → Option Value} {row : Option Nat} (h : KM w b n g) (hg : w.grownBy w' row) (hne : some b ≠ row) : KM w' b n g := by
 obtain ⟨D, ho, hD⟩ := h
 exact ⟨D, ho.kept hg hne, hD⟩
theorem KM.mono {w : World} {b n n' : Nat} {g : Nat → Option Value} (h : KM w b n g) (hn : n ≤ n') : KM w b n' g := by
 obtain ⟨D, ho, hD⟩ := h
 exact ⟨D, ho.mono hn, hD⟩
theorem KM.lt {w : World} {b n : Nat} {g : Nat → Option Value} (h : KM w b n g) : b < w.heap.size := by
 obtain ⟨D, ho, hD⟩ := h
 exact ho.lt
theorem KM.block {w w' : World} {b n : Nat} {g : Nat → Option Value} (h : KM w b n g) (hb : w'.heap[b]? = w.heap[b]?) : KM w' b n g := by
 obtain ⟨D, ⟨es, clock, h1, h2⟩, hD⟩ := h
 exact ⟨D, ⟨es, clock, hb.trans h1, h2⟩, hD⟩
theorem KM.congr {w : World} {b n : Nat} {g g' : Nat → Option Value} (h : KM w b n g) (e : ∀ a, g a = g' a) : KM w b n g' := by
 rw [show g' = g from funext fun a => (e a).symm]
 exact h
def updm (g : Nat → Option Value) (k : Nat) (v : Value) : Nat → Option Value := fun a => if a = k then some v else g a
theorem KM.at {D : DataW Value} {g : Nat → Option Value} {k : Nat} (hk : k < 4294967296) (hD : ∀ a, a < 4294967296 → Maps.has D (KU a) = (g a).isSome ∧ ∀ v, g a = some v → ∀ z, D.atKey (KU a) z = .held v) (z : Value) : D.atKey (KU k) (.held z) = .held ((g k).getD z) := by
 cases hg : g k with
 | none => rw [atKey_of_not_has (by rw [(hD k hk).1, hg]; rfl)]; rfl
 | some v => rw [(hD k hk).2 v hg]; rfl
theorem wp_look2 {w : World} {ops : Array Oper} {rest : List Oper} {o : Oper} {ac : Act} {Q : Exit → Act → World → Prop} (hg : o.guard = none) (m x : Operand) (t e : TypeId) (hop : o.op = Op.lookup t m x true) (ht : Try.prog.underlying t = some (.map 24 e))
  (z : Value) (hz : (zeroValue e).run Try.prog w = .ok z w) (b n : Nat) (g : Nat → Option Value) (hm : ac.eval m = .map (some b)) (h : KM w b n g) (k : Nat) (hk : k < 4294967296) (hx : ac.eval x = .int .u32 (k : Int))
  (ov : Option Value) (hov : g k = ov) (hK : wpList Try.prog ops Q rest (ac.put o.dst (.tuple #[ov.getD z, .bool ov.isSome])) w) : wpList Try.prog ops Q (o :: rest) ac w := by
 obtain ⟨D, ho, hD⟩ := h
 refine wpList_lookup_own_ok w hg m x t hop 24 e law ht heldR hz (.held z) [] rfl b n D hm ho _ (KU k) hx (KU_key k hk) ?_
 intro v ps hv
 rw [KM.at hk hD] at hv
 have e1 : v = (g k).getD z := by simpa [heldR] using congrArg (fun o => o.map Prod.fst) hv
 rw [e1, (hD k hk).1, hov]
 exact hK
theorem wp_look1 {w : World} {ops : Array Oper} {rest : List Oper} {o : Oper} {ac : Act} {Q : Exit → Act → World → Prop} (hg : o.guard = none) (m x : Operand) (t e : TypeId) (hop : o.op = Op.lookup t m x false) (ht : Try.prog.underlying t = some (.map 24 e))
  (z : Value) (hz : (zeroValue e).run Try.prog w = .ok z w) (b n : Nat) (g : Nat → Option Value) (hm : ac.eval m = .map (some b)) (h : KM w b n g) (k : Nat) (hk : k < 4294967296) (hx : ac.eval x = .int .u32 (k : Int))
  (ov : Option Value) (hov : g k = ov) (hK : wpList Try.prog ops Q rest (ac.put o.dst (ov.getD z)) w) : wpList Try.prog ops Q (o :: rest) ac w := by
 obtain ⟨D, ho, hD⟩ := h
 refine wpList_plain hg fun K' hK' => ?_
 obtain ⟨v, ps, hrun, hv⟩ := ho.lookup law ht hz (zd := .held z) (zp := []) rfl (KU_key k hk)
 rw [KM.at hk hD] at hv
 have e1 : v = (g k).getD z := by simpa [heldR] using congrArg (fun o => o.map Prod.fst) hv
 rw [hov] at e1
 subst e1
 unfold Oper.wp
 simp [execOp, hop, hm, hx, hrun, Result.andThen]
 exact hK' _ _ hK
theorem KM.look {w : World} {b n : Nat} {g : Nat → Option Value} (h : KM w b n g) (t e : TypeId) (ht : Try.prog.underlying t = some (.map 24 e)) (z : Value) (hz : (zeroValue e).run Try.prog w = .ok z w) (k : Nat) (hk : k < 4294967296)
  (ov : Option Value) (hov : g k = ov) : (Instr.lookup t (.map (some b)) (.int .u32 (k : Int)) false).run Try.prog w = .ok (ov.getD z) w := by
 obtain ⟨D, ho, hD⟩ := h
 obtain ⟨v, ps, hrun, hv⟩ := ho.lookup law ht hz (zd := .held z) (zp := []) rfl (KU_key k hk)
 rw [KM.at hk hD] at hv
 have e1 : v = (g k).getD z := by simpa [heldR] using congrArg (fun o => o.map Prod.fst) hv
 rw [hov] at e1
 rw [hrun, e1]
theorem xlook {w : World} {o : Oper} {ac : Act} (m x : Operand) (t e : TypeId) (hop : o.op = Op.lookup t m x false) (ht : Try.prog.underlying t = some (.map 24 e))
  (z : Value) (hz : (zeroValue e).run Try.prog w = .ok z w) (b n : Nat) (g : Nat → Option Value) (hm : ac.eval m = .map (some b)) (h : KM w b n g) (k : Nat) (hk : k < 4294967296) (hx : ac.eval x = .int .u32 (k : Int))
  (y : Value) (hov : g k = some y) : (execOp ac.eval o).run Try.prog w = .ok (.value y) w := by
 obtain ⟨D, ho, hD⟩ := h
 obtain ⟨v, ps, hrun, hv⟩ := ho.lookup law ht hz (zd := .held z) (zp := []) rfl (KU_key k hk)
 rw [KM.at hk hD] at hv
 have e1 : v = (g k).getD z := by simpa [heldR] using congrArg (fun o => o.map Prod.fst) hv
 rw [hov] at e1
 subst e1
 unfold execOp
 simp [hop, hm, hx, hrun, Result.andThen]
theorem KM.put {w w' : World} {b n : Nat} {g : Nat → Option Value} {D : DataW Value} (ho : w.ownsMap Try.prog 24 heldR b n D) (hD : ∀ a, a < 4294967296 → Maps.has D (KU a) = (g a).isSome ∧ ∀ v, g a = some v → ∀ z, D.atKey (KU a) z = .held v) (k : Nat) (hk : k < 4294967296) (v : Value) (ho' : w'.ownsMap Try.prog 24 heldR b (n + 1) (D.put (KU k) (.held v))) : KM w' b (n + 1) (updm g k v) := by
 refine ⟨_, ho', fun a ha => ?_⟩
 by_cases e : a = k
 ·subst e
  rw [has_put_same ho.isMap (isKey_KU a)]
  refine ⟨by simp [updm], fun v' hv' z => ?_⟩
  rw [atKey_put_same ho.isMap (isKey_KU a)]
  simp only [updm, if_pos, Option.some.injEq] at hv'
  rw [hv']
 ·rw [has_put_other (KU_ne e)]
  unfold updm
  rw [if_neg e]
  refine ⟨(hD a ha).1, fun v' hv' z => ?_⟩
  rw [atKey_put_other (KU_ne e)]
  exact (hD a ha).2 v' hv' z
theorem wp_put {w : World} {ops : Array Oper} {rest : List Oper} {o : Oper} {ac : Act} {Q : Exit → Act → World → Prop} (hg : o.guard = none) (m x v : Operand) (t e : TypeId) (hop : o.op = Op.mapUpdate t m x v ∨ o.op = Op.insert t m x v) (ht : Try.prog.underlying t = some (.map 24 e))
  (b n : Nat) (g : Nat → Option Value) (hm : ac.eval m = .map (some b)) (h : KM w b n g) (hn : n < maxLen) (k : Nat) (hk : k < 4294967296) (y : Value) (hx : ac.eval x = .int .u32 (k : Int)) (hv : ac.eval v = y)
  (hK : ∀ w', KM w' b (n + 1) (updm g k y) → w.grownBy w' (some b) → wpList Try.prog ops Q rest (ac.put o.dst undef) w') : wpList Try.prog ops Q (o :: rest) ac w := by
 obtain ⟨D, ho, hD⟩ := h
 refine wpList_plain hg fun K' hK' => ?_
 obtain ⟨w', hrun, r1, r2⟩ := ho.update law ht hn (KU_key k hk) (val := y) (d := .held y) (ps := []) rfl
 have hq := hK w' (KM.put ho hD k hk y r1) r2
 unfold Oper.wp
 rcases hop with hop | hop
 ·simp [execOp, hop, hm, hx, hv, hrun, Result.andThen]
  exact hK' _ _ hq
 ·simp [execOp, hop, hm, hx, hv, hrun, Result.andThen]
  exact hK' _ _ hq
theorem wp_putO {o : Oper} {ac : Act} {w : World} {K : Act → World → Prop} {Q : Exit → Act → World → Prop} (m x v : Operand) (t e : TypeId) (hop : o.op = Op.mapUpdate t m x v) (ht : Try.prog.underlying t = some (.map 24 e))
  (b n : Nat) (g : Nat → Option Value) (hm : ac.eval m = .map (some b)) (h : KM w b n g) (hn : n < maxLen) (k : Nat) (hk : k < 4294967296) (y : Value) (hx : ac.eval x = .int .u32 (k : Int)) (hv : ac.eval v = y)
  (hK : ∀ w', KM w' b (n + 1) (updm g k y) → w.grownBy w' (some b) → K (ac.put o.dst undef) w') : o.wp Try.prog ac w K Q := by
 obtain ⟨D, ho, hD⟩ := h
 obtain ⟨w', hrun, r1, r2⟩ := ho.update law ht hn (KU_key k hk) (val := y) (d := .held y) (ps := []) rfl
 have hq := hK w' (KM.put ho hD k hk y r1) r2
 unfold Oper.wp
 simp [execOp, hop, hm, hx, hv, hrun, Result.andThen]
 exact hq
theorem KM.made (w : World) (t : TypeId) : KM (w.alloc (.map #[] 0)) w.heap.size 0 (fun _ => none) :=
 ⟨.map [], World.ownsMap_made w _ _ _, fun a _ => ⟨rfl, fun v h => by cases h⟩⟩
theorem gate_dst {P : Program} {N : Tmp} {ops : Array Oper} {Q : Exit → Act → World → Prop} {o : Oper} {rest : List Oper} {a : Act} {w : World} (_ : o.dst = some N) (h : wpList P ops Q (o :: rest) a w) : wpList P ops Q (o :: rest) a w := h
theorem rh_take {P : Program} {ops : Array Oper} {Q : Exit → Act → World → Prop} {md : Region.Mode} {S : World → Prop} {i k : Nat} {oi : Oper} {v : Value} {fuel : Nat} {listed : Array Bool} {a : Act} {w : World} (hi : ops[i]? = some oi) (hk : oi.dst = some k)
  (hs : Region.noSelect ops = true) (hf : Region.free md ops listed i = true) (hr : (Region.ready md ops listed).contains i = true)
  (hQ : ∀ c a w, Q (.panic c) (a.put (some k) v) w → Q (.panic c) a w) (hy : YieldsIf P ops S oi v a) (hS : S w)
  (h : wpAnyH P md ops Q S fuel (listed.setIfInBounds i true) (a.put (some k) v) w) : wpAnyH P md ops Q S (fuel + 1) listed a w := by
 rw [← hk] at hQ h
 exact wpAnyH_take hi hs hf hr hQ hy hS h
theorem rq {P : Program} {ops : Array Oper} {Q : Exit → Act → World → Prop} {md : Region.Mode} {S : World → Prop} {v : Value} {fuel : Nat} {listed : Array Bool} {a : Act} {w : World} (i k : Nat) {oi : Oper} (hi : ops[i]? = some oi) (hk : oi.dst = some k) (hy : YieldsIf P ops S oi v a) (hS : S w)
  (h : wpAnyH P md ops Q S fuel (listed.setIfInBounds i true) (a.put (some k) v) w) (hs : Region.noSelect ops = true := by kernel_rfl) (hf : Region.free md ops listed i = true := by kernel_rfl) (hr : (Region.ready md ops listed).contains i = true := by kernel_rfl)
  (hQ : ∀ c a w, Q (.panic c) (a.put (some k) v) w → Q (.panic c) a w := by exact fun _ _ _ h => h) : wpAnyH P md ops Q S (fuel + 1) listed a w := rh_take hi hk hs hf hr hQ hy hS h
theorem sa {α : Type} (xs : List α) (i : Nat) (x : α) : xs.toArray.setIfInBounds i x = (xs.set i x).toArray := List.setIfInBounds_toArray xs i x
theorem s0' {α : Type} (x y : α) (xs : List α) : (x :: xs).set 0 y = y :: xs := List.set_cons_zero
theorem s1' {α : Type} (x y : α) (xs : List α) (n : Nat) : (x :: xs).set (n + 1) y = x :: xs.set n y := List.set_cons_succ
theorem absK {K : Act → World → Prop} {F : World → Prop} {a : Act} {w : World} (hF : F w) (h : ∀ W, F W → K a W) : K a w := h w hF
theorem hold_ {p : Prop} (h : True → p) : p := h trivial
def uc (x : Nat) : Value := .int .u32 (x : Int)
def RdU (w : World) (A : Option Addr) (l : List Nat) : Prop := ∀ i, i < l.length → ∃ ad, A = some ad ∧ w.cell? (ad.add i) = some (uc (l.getD i 0))
theorem RdU.below {w w' : World} {A : Option Addr} {l : List Nat} (h : RdU w A l) (hb : Below w.heap.size w w') : RdU w' A l := fun i hi => by
 obtain ⟨ad, e, hc⟩ := h i hi
 exact ⟨ad, e, (hb.cell (World.block_lt_of_cell? w _ hc)).trans hc⟩
abbrev OwnU (w : World) (base : Nat) (v : Value) (l : List Nat) : Prop := w.ownsRow base 24 1 v l.length (l.map uc)
theorem OwnU.opt {w : World} {base : Nat} {v : Value} {l : List Nat} (h : OwnU w base v l) : ∃ o cap, v = .slice o l.length cap ∧ l.length ≤ cap ∧ RdU w o l := by
 rcases h.2 with ⟨h1, h2⟩ | ⟨g, cap, cur, e, h3, h4, h5, h6⟩
 ·exact ⟨none, 0, by rw [h1, h2], by omega, fun i hi => by omega⟩
 ·refine ⟨_, cap, e, h5, fun i hi => ⟨⟨g, 0, none⟩, rfl, ?_⟩⟩
  have hc := World.ownsRow.cells h (g := g) (by rw [e]; rfl) i (uc (l.getD i 0)) (by simp [List.getD_eq_getElem?_getD, List.getElem?_eq_getElem hi])
  exact hc
theorem OwnU.lower {w : World} {base base' : Nat} {v : Value} {l : List Nat} (h : OwnU w base v l) (hb : base' ≤ base) : OwnU w base' v l := by
 refine ⟨h.1, ?_⟩
 rcases h.2 with hn | ⟨g, cap, cur, e, hbb, rest⟩
 ·exact .inl hn
 ·exact .inr ⟨g, cap, cur, e, Nat.le_trans hb hbb, rest⟩
theorem OwnU.kept' {w w' : World} {base : Nat} {v : Value} {l : List Nat} {row : Option Nat} (h : OwnU w base v l) (hg : w.grownBy w' row) (hr : ∀ k, row = some k → k < base ∨ v.ownBlock ≠ some k) : OwnU w' base v l := by
 refine World.ownsRow.kept h hg ?_
 cases hv : v.ownBlock with
 | none => exact Or.inl rfl
 | some k =>
  refine Or.inr (fun e => ?_)
  have h1 := (World.ownsRow.lt h k hv).1
  rcases hr k e.symm with h2 | h2
  ·omega
  ·exact h2 hv
theorem grownB {w w' : World} {n : Nat} (h : Below n w w') (hn : w.heap.size ≤ n) (row : Option Nat) : w.grownBy w' row := ⟨h.os, h.tape, h.output, h.size, fun i hi _ => h.block i (by omega)⟩
theorem grownB' {w w' : World} (h : Below w.heap.size w w') (row : Option Nat) : w.grownBy w' row := grownB h (Nat.le_refl _) row
theorem OwnU.lit (w : World) (base : Nat) (l : List Nat) (h : base ≤ w.heap.size) (hl : l.length ≤ maxLen) : OwnU (w.alloc (.cells (l.map uc).toArray 24)) base (.slice (some ⟨w.heap.size, 0, none⟩) l.length l.length) l := by
 have := World.ownsRow_lit (base := base) (e := 24) (size := 1) w (l.map uc).toArray l.length h hl (by simp)
 simpa using this
theorem infoU : (Try.prog.info? 24).map (fun i => (i.zero, i.size, i.bytes)) = some (some (.int .u32 0), 1, 4) := by kernel_rfl
theorem run_append_none (w : World) (o : Option Addr) (n cap c : Nat) (hn : n ≤ cap) (ty : TypeId) : (Builtin.append_ #[27, 27] ty #[.slice o n cap, .slice none 0 c]).run Try.prog w = .ok (.slice o n cap) w := by
 obtain ⟨i0, hi, hz0, hz1, hz2⟩ := info_parts infoU
 unfold Builtin.append_
 cases o <;> simp [Sem.run_bind, run_underlying Try.underlying27, sizeOf, typeInfo, hi, Builtin.lenOf, Builtin.firstCells, hn, storeCells, asInt]
theorem wp_appU {w : World} {ops : Array Oper} {rest : List Oper} {o : Oper} {ac : Act} {Q : Exit → Act → World → Prop} (hg : o.guard = none) (s x : Operand) (hop : o.op = .call { callee := .builtin .append, args := #[s, x], argTypes := #[27, 27] })
  (base : Nat) (v : Value) (l m : List Nat) (A : Option Addr) (c : Nat) (K : Nat) (hKm : m.length = K) (hs : ac.eval s = v) (hown : OwnU w base v l) (hx : ac.eval x = .slice A K c) (hr : RdU w A m) (hl : l.length < 100000000) (hmm : m.length < 100000000) (hbase : base ≤ w.heap.size)
  (hK : ∀ v' w', OwnU w' base v' (l ++ m) → w.grownBy w' v.ownBlock → wpList Try.prog ops Q rest (ac.put o.dst v') w') :
  wpList Try.prog ops Q (o :: rest) ac w := by
 subst hKm
 obtain ⟨i0, hi, hz0, hz1, hz2⟩ := info_parts infoU
 cases A with
 | none =>
  have hm0 : m = [] := by
   cases m with
   | nil => rfl
   | cons y m => obtain ⟨ad, e, _⟩ := hr 0 (by simp); cases e
  subst hm0
  obtain ⟨oo, cp, hv, hle, _⟩ := hown.opt
  subst hv
  refine wpList_plain hg fun K hKK => ?_
  unfold Oper.wp execOp
  simp only [hop, resolve, invoke, builtin, Sem.run_bind, Sem.run_pure, Result.andThen_ok, List.map_toArray, List.map_cons, List.map_nil, hs, hx, List.length_nil, run_append_none w oo l.length cp c hle o.type]
  exact hKK _ _ (hK _ _ (by rw [List.append_nil]; exact hown) ⟨rfl, rfl, rfl, Nat.le_refl _, fun _ _ _ => rfl⟩)
 | some ad =>
  refine wpList_append_own _ hg s x _ hop base _ i0 _ 1 4 Try.underlying27 hi hz0 hz1 hz2 rfl (by decide) v l.length (l.map uc) hs hown ad m.length c (m.map uc) hx (by simp) ?_ (by intro u hu; simp only [List.mem_map] at hu; obtain ⟨y, _, rfl⟩ := hu; rfl) (by unfold maxLen; omega) (by omega) hbase ?_
  ·intro j u hj
   have hlt : j < m.length := by
    have := (List.getElem?_eq_some_iff.1 hj).1
    simpa using this
   obtain ⟨ad', e, hc⟩ := hr j hlt
   injection e with e
   subst e
   rw [hc]
   simp only [List.getElem?_map, List.getElem?_eq_getElem hlt, Option.map_some, Option.some.injEq] at hj
   simp [List.getD_eq_getElem?_getD, List.getElem?_eq_getElem hlt, ← hj]
  intro v' w' h1 h2 _
  refine hK v' w' ?_ h2
  show w'.ownsRow base _ 1 v' (l ++ m).length ((l ++ m).map uc)
  rw [List.map_append, List.length_append]
  exact h1
theorem alloc_grown (w : World) (o : Obj) (row : Option Nat) : w.grownBy (w.alloc o) row := World.grownBy_alloc w o row
theorem Clone_calls (A : Option Addr) (c : Nat) (l : List Nat) (w : World) (hr : RdU w A l) (hl : l.length < 1000000) :
  Calls Try.prog 36 #[.slice A l.length c] w fun e w' => ∃ v, e = .returned v ∧ OwnU w' w.heap.size v l ∧ Below w.heap.size w w' := by
 have HR := Lib.hid hr
 cases A with
 | none =>
  have hm0 : l = [] := by
   cases l with
   | nil => rfl
   | cons y m => obtain ⟨ad, e, _⟩ := hr 0 (by simp); cases e
  subst hm0
  clear hr
  have hq := fun w => Go.Lib.run_eql_slice_nil (P := Try.prog) w 27 _ none 0 c 0 0 Try.underlying27
  go_enter Try.func36, Try.ntmps36
  go_wp2
  go_ret
  exact ⟨_, rfl, World.ownsRow_nil _ _ _ _, Below.refl _ w⟩
 | some ad =>
  clear hr
  have hq := fun w => Go.Lib.run_eql_slice_nil (P := Try.prog) w 27 _ (some ad) l.length c 0 0 Try.underlying27
  go_enter Try.func36, Try.ntmps36
  go_wp2_with (refine wp_appU rfl _ _ rfl w.heap.size _ [] l (some ad) c _ rfl rfl (OwnU.lit w w.heap.size [] (Nat.le_refl _) (by unfold maxLen; simp)) rfl (HR.out.below ((Below.refl _ w).alloc (Nat.le_refl _) _)) (by simp) (by omega) (by simp) ?_; intro v1 w1 hown1 hg1)
  go_ret
  refine ⟨_, rfl, ?_, ?_⟩
  ·simpa using hown1
  ·refine ((Below.refl _ w).alloc (Nat.le_refl _) _).grown hg1 (by simp) (fun k hk => ?_)
   have e : some w.heap.size = some k := hk
   injection e with e
   omega
theorem OwnU.cellAt {w : World} {base g n cap : Nat} {l : List Nat} (h : OwnU w base (.slice (some ⟨g, 0, none⟩) n cap) l) (j : Nat) (hj : j < l.length) : w.cell? ⟨g, j, none⟩ = some (uc (l.getD j 0)) := by
 have hc := World.ownsRow.cells h (g := g) rfl j (uc (l.getD j 0)) (by simp [List.getD_eq_getElem?_getD, List.getElem?_eq_getElem hj])
 have e : (⟨g, 0, none⟩ : Addr).add j = ⟨g, j, none⟩ := by unfold Addr.add; split <;> simp_all
 rwa [e] at hc
theorem OwnU.pre {w : World} {base g n cap : Nat} {l : List Nat} (h : OwnU w base (.slice (some ⟨g, 0, none⟩) n cap) l) (k : Nat) (hk : k ≤ l.length) : OwnU w base (.slice (some ⟨g, 0, none⟩) k cap) (l.take k) := by
 have hlk : (l.take k).length = k := by rw [List.length_take]; omega
 rcases h.2 with ⟨h1, _⟩ | ⟨g', cap', cur, e, h3, h4, h5, h6, h7, h8⟩
 ·cases h1
 ·injection e with e1 e2 e3
  injection e1 with e1
  injection e1 with e1
  subst e1 e3
  refine ⟨by simp, .inr ⟨g, cap, cur, by rw [hlk], h3, h4, by rw [hlk]; omega, h6, h7, ?_⟩⟩
  rw [hlk, List.map_take, ← h8, List.take_take]
  congr 1
  omega
theorem zU (w : World) : (zeroValue 24).run Try.prog w = .ok (.int .u32 0) w := by kernel_rfl
theorem Compact1 (base g cap x : Nat) (w : World) (h : OwnU w base (.slice (some ⟨g, 0, none⟩) 1 cap) [x]) :
  Calls Try.prog 29 #[.slice (some ⟨g, 0, none⟩) 1 cap] w fun e w' => e = .returned (.slice (some ⟨g, 0, none⟩) 1 cap) ∧ w = w' := by
 go_enter Try.func29, Try.ntmps29
 go_wp2
 go_ret
 exact ⟨rfl, rfl⟩
theorem Compact2 (base g cap x y : Nat) (w : World) (hxy : x ≠ y) (h : OwnU w base (.slice (some ⟨g, 0, none⟩) 2 cap) [x, y]) :
  Calls Try.prog 29 #[.slice (some ⟨g, 0, none⟩) 2 cap] w fun e w' => e = .returned (.slice (some ⟨g, 0, none⟩) 2 cap) ∧ ∃ n, w.drewN n = w' := by
 have c0 : w.cell? ⟨g, 0, none⟩ = some (.int .u32 (x : Int)) := h.cellAt 0 (by simp)
 have c1 : w.cell? ⟨g, 1, none⟩ = some (.int .u32 (y : Int)) := h.cellAt 1 (by simp)
 have hb : ((y : Int) == (x : Int)) = false := beq_eq_false_iff_ne.mpr (by omega)
 clear h
 go_enter Try.func29, Try.ntmps29
 go_wp2
 refine wp_loop_rounds 2 ?_
 rw [rounds_succ]
 go_wp2
 go_quiet (fail)
 go_wp2
 rw [rounds_succ]
 go_wp2
 go_ret
 exact ⟨rfl, nq, rfl⟩
theorem Compact2e (base g cap x : Nat) (w : World) (h : OwnU w base (.slice (some ⟨g, 0, none⟩) 2 cap) [x, x]) :
  Calls Try.prog 29 #[.slice (some ⟨g, 0, none⟩) 2 cap] w fun e w' => e = .returned (.slice (some ⟨g, 0, none⟩) 1 cap) ∧ OwnU w' base (.slice (some ⟨g, 0, none⟩) 1 cap) [x] ∧ w.grownBy w' (some g) := by
 have c0 : w.cell? ⟨g, 0, none⟩ = some (.int .u32 (x : Int)) := h.cellAt 0 (by simp)
 have c1 : w.cell? ⟨g, 1, none⟩ = some (.int .u32 (x : Int)) := h.cellAt 1 (by simp)
 have hcap : (2 : Int) ≤ cap := by
  obtain ⟨o, cap', e, hc, _⟩ := h.opt
  injection e with _ _ e
  simp at hc
  omega
 have H := Lib.hid h
 clear h
 go_enter Try.func29, Try.ntmps29
 go_wp2
 refine wp_loop_rounds 2 ?_
 rw [rounds_succ]
 go_wp2
 go_quiet (fail)
 go_wp2
 refine wp_loop_rounds 1 ?_
 rw [rounds_succ]
 go_wp2
 have i0 : ∀ j, j < 1 → ((w.drewN nq).cell? ⟨g, 1 + j, none⟩).isSome = true := fun j hj => by
  obtain rfl : j = 0 := by omega
  show (w.cell? ⟨g, 1, none⟩).isSome = true
  rw [H.out.cellAt 1 (by simp)]
  rfl
 have i1 : ∀ j, j < 1 → (w.drewN nq).frozen? ⟨g, 1 + j, none⟩ = false := fun j hj => by
  have := World.ownsRow.frozenAt H.out (1 + j)
  exact this
 rw [Go.Lib.run_clear_slice (w.drewN nq) 27 24 _ _ Try.underlying27 zU rfl rfl g 1 1 _ (by omega) i0 i1]
 simp only [Result.andThen]
 rw [Oper.upon_value]
 clear i0 i1
 go_wp2
 go_ret
 have h1 : OwnU (w.drewN nq) base (.slice (some ⟨g, 0, none⟩) 2 cap) [x, x] := H.out
 obtain ⟨s1, s2⟩ := World.ownsRow.stored h1 1 (.int .u32 0)
 have h2 : OwnU ((w.drewN nq).setCells g 1 [Value.int IntKind.u32 0]) base (.slice (some ⟨g, 0, none⟩) 2 cap) [x, 0] := s1
 exact ⟨rfl, h2.pre 1 (by simp), ⟨s2.os, s2.tape, s2.output, s2.size, s2.block⟩⟩
end Go.Proofs.Ytekenddkoahjgaa.Bl
