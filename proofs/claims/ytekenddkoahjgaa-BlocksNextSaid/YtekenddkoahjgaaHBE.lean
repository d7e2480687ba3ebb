import Derived.Test.YtekenddkoahjgaaHBD
import Derived.WalkKit
import Derived.KernelRfl
import Derived.Below
import Derived.Outline
import Derived.LoopTactic
import Derived.Maps.Own
import Derived.Maps.OwnOps
import Derived.Maps.OwnSet
import Derived.Maps.Views
import Derived.Maps.AppendAt
import Derived.Laws.BitsLemmas
import Derived.Laws.BitsAllLaws
import Derived.Deep.LoopGhost
import Derived.Lib.Hide
import Derived.Deep.QuietTactic
import Derived.BigQuiet
import Derived.Deep.Draws
import Derived.Laws.StructEq
import Derived.Deep.Slices
import Derived.Deep.Fields
import Derived.ChangeSame
import Derived.Deep.CutBlock
import Derived.Deep.DeepCutAuto
import Derived.Deep.RegionHeld3
import Derived.StillTailTactics
import Derived.WalkSmall
import Derived.OwnWalk
import Derived.Laws.OwnMore
import Derived.Laws.BytesArg
import Derived.Laws.MakeOwn
import Derived.Laws.Tables
import Derived.Laws.Rows
import Derived.Laws.World
import Derived.Lib.SliceRun
/- Layer 8, walked: blocks.Find. -/
namespace Go.Proofs.Ytekenddkoahjgaa.Bl
open Go.RowKit Go.Maps Go.Proofs
set_option maxRecDepth 100000
set_option linter.unusedVariables false
set_option linter.unusedSimpArgs false
def bv (l : List (Nat × Nat)) : List Value := l.flatMap fun x => [.int .u32 (x.1 : Int), .int .i64 (x.2 : Int)]
theorem bv_append (l m : List (Nat × Nat)) : bv (l ++ m) = bv l ++ bv m := List.flatMap_append
theorem bv_length (l : List (Nat × Nat)) : (bv l).length = l.length * 2 := by
 induction l with
 | nil => rfl
 | cons x l ih => simp only [bv, List.flatMap_cons, List.length_append, List.length_cons, List.length_nil] at ih ⊢; rw [ih]; omega
theorem bv_get (l : List (Nat × Nat)) (j : Nat) (x : Nat × Nat) (h : l[j]? = some x) : (bv l)[j * 2]? = some (.int .u32 (x.1 : Int)) ∧ (bv l)[j * 2 + 1]? = some (.int .i64 (x.2 : Int)) := by
 induction l generalizing j with
 | nil => simp at h
 | cons y l ih =>
  cases j with
  | zero =>
   simp only [List.getElem?_cons_zero, Option.some.injEq] at h
   subst h
   exact ⟨rfl, rfl⟩
  | succ j =>
   have h2 := ih j (by simpa using h)
   show ([.int .u32 (y.1 : Int), .int .i64 (y.2 : Int)] ++ bv l)[(j + 1) * 2]? = _ ∧ ([.int .u32 (y.1 : Int), .int .i64 (y.2 : Int)] ++ bv l)[(j + 1) * 2 + 1]? = _
   rw [List.getElem?_append_right (by simp; omega), List.getElem?_append_right (by simp; omega)]
   simp only [List.length_cons, List.length_nil]
   rw [show (j + 1) * 2 - (0 + 1 + 1) = j * 2 by omega, show (j + 1) * 2 + 1 - (0 + 1 + 1) = j * 2 + 1 by omega]
   exact h2
abbrev OwnB (w : World) (base : Nat) (v : Value) (l : List (Nat × Nat)) : Prop := w.ownsRow base 40 2 v l.length (bv l)
theorem infoB : (Try.prog.info? 40).map (fun i => (i.zero, i.size, i.bytes)) = some (some (.agg #[.int .u32 0, .int .i64 0]), 2, 16) := by kernel_rfl
theorem cells_new (w : World) (cs : Array Value) (t : TypeId) : ∀ j u, cs.toList[j]? = some u → (w.alloc (.cells cs t)).cell? ((⟨w.heap.size, 0, none⟩ : Addr).add j) = some u := by
 intro j u hj
 have e : (⟨w.heap.size, 0, none⟩ : Addr).add j = ⟨w.heap.size, j, none⟩ := by unfold Addr.add; split <;> simp_all
 have := (MapKept.heap_alloc w (.cells cs t)).1
 rw [e]
 simp only [World.cell?, this]
 simpa using hj
theorem wp_appB {w : World} {ops : Array Oper} {rest : List Oper} {o : Oper} {ac : Act} {Q : Exit → Act → World → Prop} (hg : o.guard = none) (s x : Operand) (hop : o.op = .call { callee := .builtin .append, args := #[s, x], argTypes := #[34, 34] })
  (base : Nat) (v : Value) (l : List (Nat × Nat)) (a c : Nat) (hs : ac.eval s = v) (hown : OwnB w base v l) (cap : Nat) (hx : ac.eval x = .slice (some ⟨w.heap.size, 0, none⟩) 1 cap) (hl : l.length < 100000000) (hbase : base ≤ w.heap.size)
  (hK : ∀ v' w', OwnB w' base v' (l ++ [(a, c)]) → w.grownBy w' v.ownBlock → v' ≠ .slice none 0 0 → wpList Try.prog ops Q rest (ac.put o.dst v') w') :
  wpList Try.prog ops Q (o :: rest) ac (w.alloc (.cells #[.int .u32 (a : Int), .int .i64 (c : Int)] 40)) := by
 obtain ⟨i0, hi, hz0, hz1, hz2⟩ := info_parts infoB
 refine wpList_append_own _ hg s x _ hop base _ i0 _ 2 16 Try.underlying34 hi hz0 hz1 hz2 rfl (by decide) v l.length (bv l) hs (hown.alloc _) ⟨w.heap.size, 0, none⟩ 1 cap [.int .u32 (a : Int), .int .i64 (c : Int)] hx rfl (cells_new w #[.int .u32 (a : Int), .int .i64 (c : Int)] _) (by simp [Value.oneCell']) (by unfold maxLen; omega) (by omega) (by simp; omega) ?_
 intro v' w' h1 h2 h3
 refine hK v' w' ?_ ((World.grownBy_alloc w _ _).trans h2) (fun e => by have := h3.1 e; omega)
 show w'.ownsRow base _ 2 v' (l ++ [(a, c)]).length (bv (l ++ [(a, c)]))
 rw [bv_append, List.length_append]
 exact h1
theorem OwnB.kept' {w w' : World} {base : Nat} {v : Value} {l : List (Nat × Nat)} {row : Option Nat} (h : OwnB w base v l) (hg : w.grownBy w' row) (hr : ∀ k, row = some k → k < base) : OwnB w' base v l := by
 refine World.ownsRow.kept h hg ?_
 cases hv : v.ownBlock with
 | none => exact Or.inl rfl
 | some k =>
  refine Or.inr (fun e => ?_)
  have := (World.ownsRow.lt h k hv).1
  have := hr k e.symm
  omega
theorem OwnB.lower {w : World} {base base' : Nat} {v : Value} {l : List (Nat × Nat)} (h : OwnB w base v l) (hb : base' ≤ base) : OwnB w base' v l := by
 refine ⟨h.1, ?_⟩
 rcases h.2 with hn | ⟨g, cap, cur, e, hbb, rest⟩
 ·exact .inl hn
 ·exact .inr ⟨g, cap, cur, e, Nat.le_trans hb hbb, rest⟩
theorem wp_appO {w : World} {o : Oper} {ac : Act} {K : Act → World → Prop} {Q : Exit → Act → World → Prop} (s x : Operand) (hop : o.op = .call { callee := .builtin .append, args := #[s, x], argTypes := #[27, 27] })
  (base : Nat) (v : Value) (l m : List Nat) (ad : Addr) (c n : Nat) (hn : m.length = n) (hs : ac.eval s = v) (hown : OwnU w base v l) (hx : ac.eval x = .slice (some ad) n c) (hr : RdU w (some ad) m) (hl : l.length < 100000000) (hmm : m.length < 100000000) (hbase : base ≤ w.heap.size)
  (hK : ∀ v' w', OwnU w' base v' (l ++ m) → w.grownBy w' v.ownBlock → K (ac.put o.dst v') w') : o.wp Try.prog ac w K Q := by
 subst hn
 obtain ⟨i0, hi, hz0, hz1, hz2⟩ := info_parts infoU
 refine wp_append_own w s x _ hop base _ i0 _ 1 4 Try.underlying27 hi hz0 hz1 hz2 rfl (by decide) v l.length (l.map uc) hs hown ad m.length c (m.map uc) hx (by simp) ?_ (by intro u hu; simp only [List.mem_map] at hu; obtain ⟨y, _, rfl⟩ := hu; rfl) (by unfold maxLen; omega) (by omega) hbase ?_
 ·intro j u hj
  have hlt : j < m.length := by
   have := (List.getElem?_eq_some_iff.1 hj).1
   simpa using this
  obtain ⟨ad', e, hc⟩ := hr j hlt
  injection e with e
  subst e
  rw [hc]
  simp only [List.getElem?_map, List.getElem?_eq_getElem hlt, Option.map_some, Option.some.injEq] at hj
  simp [List.getD_eq_getElem?_getD, List.getElem?_eq_getElem hlt, ← hj]
 intro v' w' h1 h2 _
 refine hK v' w' ?_ h2
 show w'.ownsRow base _ 1 v' (l ++ m).length ((l ++ m).map uc)
 rw [List.map_append, List.length_append]
 exact h1
structure RInv (s : RS) : Prop where
 s1 : s.seen.Nodup
 s2 : ∀ a ∈ s.seen, a < 4294967296
 b1 : s.bad.Nodup
 b2 : ∀ a ∈ s.bad, a < 4294967296
 l1 : ∀ a ∈ s.left, a < 4294967296
theorem RInv.step {I : Nat → Ins × Int} {aft : Ins → Nat → List Nat} {nd : Ins → Bool} {s : RS} (h : RInv s) (ha : ∀ x a, ∀ b ∈ aft x a, b < 4294967296) : RInv (rstep I aft nd s) := by
 obtain ⟨sl, ss, sd, sb⟩ := s
 obtain ⟨h1, h2, h3, h4, h5⟩ := h
 simp only at h1 h2 h3 h4 h5
 cases sl with
 | nil => exact ⟨h1, h2, h3, h4, h5⟩
 | cons a l =>
  have hl : ∀ x ∈ l, x < 4294967296 := fun x hx => h5 x (by simp [hx])
  unfold rstep
  simp only
  split
  ·exact ⟨h1, h2, h3, h4, hl⟩
  ·rename_i hs
   split
   ·refine ⟨h1, h2, ?_, ?_, hl⟩
    ·simp only
     split
     ·exact h3
     ·exact List.nodup_cons.2 ⟨by assumption, h3⟩
    ·simp only
     split
     ·exact h4
     ·intro x hx
      rcases List.mem_cons.1 hx with rfl | hx
      ·exact h5 x (by simp)
      ·exact h4 x hx
   ·refine ⟨List.nodup_cons.2 ⟨hs, h1⟩, ?_, h3, h4, ?_⟩
    ·intro x hx
     rcases List.mem_cons.1 hx with rfl | hx
     ·exact h5 x (by simp)
     ·exact h2 x hx
    ·intro x hx
     rcases List.mem_append.1 hx with hx | hx
     ·exact ha _ _ x (List.mem_reverse.1 hx)
     ·exact hl x hx
theorem RInv.run {I : Nat → Ins × Int} {aft : Ins → Nat → List Nat} {nd : Ins → Bool} (ha : ∀ x a, ∀ b ∈ aft x a, b < 4294967296) : ∀ (k : Nat) (s : RS), RInv s → RInv (rrun I aft nd k s)
 | 0, s, h => h
 | k + 1, s, h => RInv.run ha k _ (h.step ha)
theorem RInv.zero (E : Nat) (es : List Nat) (hE : E < 4294967296) (he : ∀ a ∈ es, a < 4294967296) : RInv (rs0 E es) := by
 refine ⟨List.nodup_nil, by intro a h; simp [rs0] at h, List.nodup_nil, by intro a h; simp [rs0] at h, fun a h => ?_⟩
 rcases List.mem_cons.1 h with rfl | h
 ·exact hE
 ·exact he a (List.mem_reverse.1 h)
theorem heap_old (w : World) (o : Obj) (i : Nat) (h : i < w.heap.size) : (w.alloc o).heap[i]? = w.heap[i]? := Below.heap_alloc w o i h
theorem FSt.start {w w3 : World} {X : Array Value} {t : TypeId} (E : Nat) (I : Nat → Ins × Int) (fc : Array Value) (h : KM w3 (w.heap.size + 1 + 1) 1 (updm (fun _ => none) E (.bool true)))
  (hg : (((w.alloc (.cells X t)).alloc (.map #[] 0)).alloc (.map #[] 0)).grownBy w3 (some (w.heap.size + 1 + 1))) :
  FSt ((w3.alloc (.map #[] 0)).alloc (.cells fc 63)) ((w3.alloc (.map #[] 0)).alloc (.cells fc 63)) (w.heap.size + 1) (w3.heap.size + 1) (w.heap.size + 1) (w.heap.size + 1 + 1) w3.heap.size 1 fc (gseen I []) (glead [E]) (gbad I []) (.slice none 0 0) []
   ∧ ((w3.alloc (.map #[] 0)).alloc (.cells fc 63)).heap[w.heap.size]? = some (.cells X t (0, 0)) ∧ Below w.heap.size w ((w3.alloc (.map #[] 0)).alloc (.cells fc 63)) := by
 have hs3 : w.heap.size + 3 ≤ w3.heap.size := by have := hg.size; simpa using this
 have k0 : w3.heap[w.heap.size]? = some (.cells X t (0, 0)) := by
  rw [hg.block w.heap.size (by simp; omega) (fun e => by injection e with e; omega), heap_old _ _ _ (by simp; omega), heap_old _ _ _ (by simp)]
  exact (MapKept.heap_alloc w _).1
 have hb3 : Below w.heap.size w w3 := ((((Below.refl _ w).alloc (Nat.le_refl _) _).alloc (by simp) _).alloc (by simp; omega) _).grown hg (by simp; omega) (by rintro k ⟨⟩; omega)
 have hb5 : Below w.heap.size w ((w3.alloc (.map #[] 0)).alloc (.cells fc 63)) := (hb3.alloc (by omega) _).alloc (by simp; omega) _
 have g1 := World.grownBy_alloc w3 (.map #[] 0) none
 have g2 := World.grownBy_alloc (w3.alloc (.map #[] 0)) (.cells fc 63) none
 have m1 : KM w3 (w.heap.size + 1) 0 (fun _ => none) := by
  have h0 : KM (((w.alloc (.cells X t)).alloc (.map #[] 0)).alloc (.map #[] 0)) (w.heap.size + 1) 0 (fun _ => none) := by
   have := (KM.made (w.alloc (.cells X t)) 0).kept (World.grownBy_alloc _ (.map #[] 0) none) (by simp)
   simpa using this
  exact h0.kept hg (fun e => by injection e with e; omega)
 have m3 : KM (w3.alloc (.map #[] 0)) w3.heap.size 0 (fun _ => none) := KM.made w3 0
 have hsz : ((w3.alloc (.map #[] 0)).alloc (.cells fc 63)).heap.size = w3.heap.size + 2 := by simp
 refine ⟨⟨World.ownsRow_nil _ _ _ _, Nat.le_refl _, ?_, ?_, ?_, ?_, Below.refl _ _, ?_, ?_, ?_⟩, ?_, hb5⟩
 ·have := (MapKept.heap_alloc (w3.alloc (.map #[] 0)) (.cells fc 63)).1
  simpa using this
 ·exact (((m1.kept g1 (by simp)).kept g2 (by simp)).mono (by omega)).congr (fun a => by simp [gseen])
 ·exact ((h.kept g1 (by simp)).kept g2 (by simp)).congr (fun a => by simp [glead, updm])
 ·exact ((m3.kept g2 (by simp)).mono (by omega)).congr (fun a => by simp [gbad])
 ·rw [hsz]; omega
 ·omega
 ·omega
 ·rw [heap_old _ _ _ (by simp; omega), heap_old _ _ _ (by omega)]
  exact k0
theorem twoWays {G : Prop} {F R : Nat → Option Addr → Nat → World → Prop} (h1 : (∀ g o c w, F g o c w → R g o c w) → G) (h2 : ∀ g o c w, F g o c w → R g o c w) : G := h1 h2
theorem Clone_o (A : Option Addr) (c M : Nat) (l : List Nat) (hM : l.length = M) (w : World) (hr : RdU w A l) (hl : M < 1000000) :
  Calls Try.prog 36 #[.slice A M c] w fun e w' => ∃ o cp, e = .returned (.slice o M cp) ∧ OwnU w' w.heap.size (.slice o M cp) l ∧ Below w.heap.size w w' := by
 subst hM
 refine (Clone_calls A c l w hr hl).mono ?_
 rintro e w' ⟨v, rfl, ho, hb⟩
 obtain ⟨o, cp, rfl, _⟩ := ho.opt
 exact ⟨o, cp, rfl, ho, hb⟩
theorem OwnU.move {w w' : World} {base : Nat} {v : Value} {l : List Nat} (h : OwnU w base v l) (hm : ∀ k, v.ownBlock = some k → w'.heap[k]? = w.heap[k]?) : OwnU w' base v l := by
 refine ⟨h.1, ?_⟩
 rcases h.2 with hn | ⟨g, cap, cur, e, h3, h4, h5⟩
 ·exact .inl hn
 ·exact .inr ⟨g, cap, cur, e, h3, (hm g (by rw [e]; rfl)).trans h4, h5⟩
theorem FSt.rebase {w wx : World} {n0 p bs bl bb nn : Nat} {fc : Array Value} {gs gl gb : Nat → Option Value} {v : Value} {l : List Nat} (h : FSt w wx n0 p bs bl bb nn fc gs gl gb v l) : FSt wx wx n0 p bs bl bb nn fc gs gl gb (.slice none 0 0) [] := by
 have h1 := h.b1
 have h2 := h.sz
 exact ⟨World.ownsRow_nil _ _ _ _, Nat.le_refl _, h.ptr, h.ms, h.ml, h.mb, Below.refl _ _, by omega, h.b2, h.b3⟩
theorem OwnU.rd {w : World} {base g n cap : Nat} {l : List Nat} (h : OwnU w base (.slice (some ⟨g, 0, none⟩) n cap) l) : RdU w (some ⟨g, 0, none⟩) l := fun i hi => by
 refine ⟨_, rfl, ?_⟩
 have e : (⟨g, 0, none⟩ : Addr).add i = ⟨g, i, none⟩ := by unfold Addr.add; split <;> simp_all
 rw [e]
 exact OwnU.cellAt h i hi
theorem OwnU.grow {w w1 w2 : World} {n : Nat} {v : Value} {l : List Nat} (ho : OwnU w1 n v l) (hb : Below w.heap.size w w1) (hn : w.heap.size ≤ n) (hg : w1.grownBy w2 v.ownBlock) : Below w.heap.size w w2 :=
 hb.grown hg hb.size (fun k hk => Nat.le_trans hn (World.ownsRow.lt ho k hk).1)
theorem gseen_some (I : Nat → Ins × Int) (l : List Nat) (a : Nat) : (gseen I l a).isSome = true ↔ a ∈ l := by unfold gseen; split <;> simp [*]
theorem gbad_some (I : Nat → Ins × Int) (l : List Nat) (a : Nat) : (gbad I l a).isSome = true ↔ a ∈ l := by unfold gbad; split <;> simp [*]
theorem perm_nat {ss : List Int} {l : List Nat} (hp : ss.Perm (l.map (fun x : Nat => (x : Int)))) : ∃ ms : List Nat, ss = ms.map (fun x : Nat => (x : Int)) ∧ ms.Perm l := by
 refine ⟨ss.map Int.toNat, ?_, ?_⟩
 ·rw [List.map_map]
  refine (List.map_id' ss).symm.trans (List.map_congr_left fun x hx => ?_)
  obtain ⟨a, _, rfl⟩ := List.mem_map.1 (hp.mem_iff.1 hx)
  simp
 ·have := hp.map Int.toNat
  rwa [List.map_map, show (Int.toNat ∘ fun x : Nat => (x : Int)) = id from funext fun x => by simp, List.map_id] at this
theorem own_nat {w : World} {base : Nat} {v : Value} {ss : List Int} {l : List Nat} (hp : ss.Perm (l.map (fun x : Nat => (x : Int)))) (ho : w.ownsRow base 24 1 v ss.length (ss.map It.encK)) : ∃ ms : List Nat, ms.Perm l ∧ OwnU w base v ms := by
 obtain ⟨ms, rfl, hp2⟩ := perm_nat hp
 refine ⟨ms, hp2, ?_⟩
 rw [List.length_map, List.map_map] at ho
 exact ho
theorem cell_new1 (w : World) (v : Value) (t : TypeId) : (w.alloc (.cells #[v] t)).cell? ⟨w.heap.size, 0, none⟩ = some v := by
 have := (MapKept.heap_alloc w (.cells #[v] t)).1
 rw [World.cell?, this]
 rfl
theorem own_sorted {w : World} {base : Nat} {v : Value} {ss : List Int} {l : List Nat} (hp : ss.Perm (l.map (fun x : Nat => (x : Int)))) (ho : w.ownsRow base 24 1 v ss.length ((ss.mergeSort (fun x y => decide (x ≤ y))).map It.encK)) : OwnU w base v (sortv l) := by
 rw [merge_sortv l ss hp, List.map_map] at ho
 have hl : ss.length = (sortv l).length := by rw [hp.length_eq, List.length_map, sortv_length]
 rw [hl] at ho
 exact ho
def bfold (I : Nat → Ins × Int) (nd : Ins → Bool) (lead ks : List Nat) (j : Nat) : List (Nat × Nat) × Bool × Nat := (ks.take j).foldl (bstep I nd lead) ([], false, 0)
theorem bfold_step (I : Nat → Ins × Int) (nd : Ins → Bool) (lead ks : List Nat) (j a : Nat) (h : ks[j]? = some a) : bfold I nd lead ks (j + 1) = bstep I nd lead (bfold I nd lead ks j) a := by
 unfold bfold
 rw [List.take_add_one, h, List.foldl_append]
 rfl
theorem bump_app (L : List (Nat × Nat)) (x c : Nat) : bump (L ++ [(x, c)]) = L ++ [(x, c + 1)] := by
 unfold bump
 rw [List.dropLast_concat, List.getLastD_concat]
theorem bv_set (L : List (Nat × Nat)) (x c : Nat) (u : Nat) : (bv (L ++ [(x, c)])).set (L.length * 2 + 1) (.int .i64 (u : Int)) = bv (L ++ [(x, u)]) := by
 have e : ∀ y : Nat, bv (L ++ [(x, y)]) = bv L ++ [.int .u32 (x : Int), .int .i64 (y : Int)] := fun y => bv_append L _
 rw [e, e, List.set_append_right _ _ (by rw [bv_length]; omega), bv_length, show L.length * 2 + 1 - L.length * 2 = 1 by omega]
 rfl
theorem OwnB.inc {w : World} {base g n cap : Nat} {L : List (Nat × Nat)} {x c : Nat} (h : OwnB w base (.slice (some ⟨g, 0, none⟩) n cap) (L ++ [(x, c)])) :
  w.cell? ⟨g, L.length * 2 + 1, none⟩ = some (.int .i64 (c : Int)) ∧ w.frozen? ⟨g, L.length * 2 + 1, none⟩ = false ∧ OwnB (w.setCell ⟨g, L.length * 2 + 1, none⟩ (.int .i64 ((c : Int) + 1))) base (.slice (some ⟨g, 0, none⟩) (L.length + 1) cap) (bump (L ++ [(x, c)])) ∧ w.grownBy (w.setCell ⟨g, L.length * 2 + 1, none⟩ (.int .i64 ((c : Int) + 1))) (some g) := by
 rw [show (c : Int) + 1 = ((c + 1 : Nat) : Int) by omega]
 have hl : (L ++ [(x, c)]).length = L.length + 1 := by simp
 have hn : n = L.length + 1 := by
  rcases h.2 with ⟨h1, _⟩ | ⟨g', cap', cur, e, _⟩
  ·cases h1
  ·injection e with _ e2 _
   rw [e2, hl]
 have h' : w.ownsRow base 40 2 (.slice (some ⟨g, 0, none⟩) (L.length + 1) cap) (L.length + 1) (bv (L ++ [(x, c)])) := by
  have h2 := h
  unfold OwnB at h2
  rw [hl, hn] at h2
  exact h2
 have hc := World.ownsRow.cellAt h' (L.length * 2 + 1) (by omega)
 obtain ⟨s1, s2⟩ := World.ownsRow.stored h' (L.length * 2 + 1) (.int .i64 ((c + 1 : Nat) : Int))
 refine ⟨?_, World.ownsRow.frozenAt h' _, ?_, s2⟩
 ·rw [hc]
  exact (bv_get (L ++ [(x, c)]) L.length (x, c) (by simp)).2
 ·rw [bump_app, OwnB, ← bv_set L x c (c + 1)]
  have hl2 : (L ++ [(x, c + 1)]).length = L.length + 1 := by simp
  rw [hl2]
  exact s1
theorem bump_facts (L : List (Nat × Nat)) (x c j : Nat) (h : ∀ y ∈ L ++ [(x, c)], y.2 ≤ j) : bump (L ++ [(x, c)]) ≠ [] ∧ (∀ y ∈ bump (L ++ [(x, c)]), y.2 ≤ j + 1) ∧ (bump (L ++ [(x, c)])).length = L.length + 1 := by
 rw [bump_app]
 refine ⟨by simp, fun y hy => ?_, by simp⟩
 rcases List.mem_append.1 hy with hy | hy
 ·have := h y (by simp [hy]); omega
 ·have := h (x, c) (by simp)
  rw [List.mem_singleton.1 hy]
  simp only at this ⊢
  omega
theorem zB (w : World) : (zeroValue 4).run Try.prog w = .ok (.bool false) w := by kernel_rfl
theorem wp_appN {w : World} {o : Oper} {ac : Act} {K : Act → World → Prop} {Q : Exit → Act → World → Prop} (s x : Operand) (hop : o.op = .call { callee := .builtin .append, args := #[s, x], argTypes := #[27, 27] })
  (base : Nat) (v : Value) (l m : List Nat) (A : Option Addr) (c n : Nat) (hn : m.length = n) (hs : ac.eval s = v) (hown : OwnU w base v l) (hx : ac.eval x = .slice A n c) (hr : RdU w A m) (hl : l.length < 100000000) (hmm : m.length < 100000000) (hbase : base ≤ w.heap.size)
  (hK : ∀ v' w', OwnU w' base v' (l ++ m) → w.grownBy w' v.ownBlock → K (ac.put o.dst v') w') : o.wp Try.prog ac w K Q := by
 cases A with
 | none =>
  have hm0 : m = [] := by
   cases m with
   | nil => rfl
   | cons y m => obtain ⟨ad, e, _⟩ := hr 0 (by simp); cases e
  subst hm0
  have hn0 : n = 0 := hn.symm
  subst hn0
  obtain ⟨oo, cp, hv, hle, _⟩ := hown.opt
  subst hv
  unfold Oper.wp execOp
  simp only [hop, resolve, invoke, builtin, Sem.run_bind, Sem.run_pure, Result.andThen_ok, List.map_toArray, List.map_cons, List.map_nil, hs, hx, run_append_none w oo l.length cp c hle o.type]
  exact hK _ _ (by rw [List.append_nil]; exact hown) ⟨rfl, rfl, rfl, Nat.le_refl _, fun _ _ _ => rfl⟩
 | some ad => exact wp_appO s x hop base v l m ad c n hn hs hown hx hr hl hmm hbase hK
set_option maxHeartbeats 8000000 in
theorem Find_calls (F : Nat) (B : Int) (E : Nat) (A : Option Addr) (len cap : Nat) (S : Int) (I : Nat → Ins × Int) (aft : Ins → Nat → List Nat) (nd : Ins → Bool) (es : List Nat) (w : World) (A0 : Option Addr) (c0 M : Nat)
  (afterC : AfterC aft) (endsC : EndsC nd) (atC : AtC w.heap.size w B E A len cap S I) (ha2 : ∀ x a, (aft x a).length ≤ 2 ∧ ∀ b ∈ aft x a, b < 4294967296)
  (hr : RdU w A0 es) (hM : es.length = M) (hE : E < 4294967296) (hes : ∀ a ∈ es, a < 4294967296) (hMs : M + 4 * F < 100000)
  (hfin : (rrun I aft nd F (rs0 E es)).left = []) :
  Calls Try.prog 19 #[imv B E A len cap S, .slice A0 M c0] w fun e w' => ∃ v, e = .returned (.tuple #[v, .int .i64 (findv I aft nd F E es).2]) ∧ OwnB w' w.heap.size v (findv I aft nd F E es).1 ∧ Below w.heap.size w w' := by
 have AF := Lib.hid afterC
 have EN := Lib.hid endsC
 have AT := Lib.hid atC
 have A2 := Lib.hid ha2
 have HR := Lib.hid hr
 have HM := Lib.hid hM
 have HES := Lib.hid hes
 have HMs := Lib.hid hMs
 have HFI := Lib.hid hfin
 have hMb : M < 100000 := by omega
 obtain ⟨T, hT⟩ : ∃ T, rrun I aft nd F (rs0 E es) = T := ⟨_, rfl⟩
 have HT := Lib.hid hT
 have HI : Hid (RInv T) := Lib.hid (by rw [← hT]; exact RInv.run (fun x a => (ha2 x a).2) F _ (RInv.zero E es hE hes))
 obtain ⟨R, hR⟩ : ∃ R, findv I aft nd F E es = R := ⟨_, rfl⟩
 have HRR := Lib.hid hR
 rw [hR]
 clear afterC endsC atC ha2 hr hM hes hMs hfin hT hR
 have mk1 := fun (t : TypeId) (w : World) => run_makeMap (P := Try.prog) t w
 go_enter Try.func19, Try.ntmps19
 go_wp2_with (refine wp_put rfl _ _ _ 60 4 (.inr rfl) Try.underlying60 (w.heap.size + 1 + 1) 0 (fun _ => none) rfl (by have := KM.made ((w.alloc (.cells #[.int .u32 B, .int .u32 (E : Int), .slice A len cap, .int .i64 S] 32)).alloc (.map #[] 0)) 0; simpa using this) (by decide) E hE (.bool true) rfl rfl ?_; intro w3 hk3 hg3)
 obtain ⟨FS0, hX0, hb0⟩ := FSt.start (w := w) (w3 := w3) (X := #[.int .u32 B, .int .u32 (E : Int), .slice A len cap, .int .i64 S]) (t := 32) E I (fcv B (E : Int) A len cap S (w.heap.size + 1) (w.heap.size + 1 + 1) w3.heap.size) hk3 hg3
 have FS := Lib.hid FS0
 have HX0 := Lib.hid hX0
 have HB0 := Lib.hid hb0
 have hsz : w.heap.size + 3 ≤ w3.heap.size := by have := hg3.size; simpa using this
 clear hk3 hg3 FS0 hX0 hb0
 go_wp2
 generalize (w3.alloc (.map #[] 0)).alloc (.cells (fcv B (E : Int) A len cap S (w.heap.size + 1) (w.heap.size + 1 + 1) w3.heap.size) 63) = w5 at *
 generalize w3.heap.size + 1 = p at *
 generalize w3.heap.size = bb at *
 generalize w.heap.size + 1 + 1 = bl at *
 have hbs1 : w.heap.size ≤ w.heap.size + 1 := Nat.le_succ _
 have hbs2 : w.heap.size < w.heap.size + 1 := Nat.lt_succ_self _
 generalize w.heap.size + 1 = bs at *
 clear hsz
 go_loopw [25] (fun s25 wx => ∃ (j : Nat), j ≤ M ∧ s25 = .int .i64 j ∧ Hid (FSt w5 wx bs p bs bl bb (1 + j) (fcv B (E : Int) A len cap S bs bl bb) (gseen I []) (glead ((es.take j).reverse ++ [E])) (gbad I []) (.slice none 0 0) [])) (fun s25 _ => M - (intOf s25).toNat)
 case atStart => exact ⟨0, Nat.zero_le _, rfl, FS⟩
 case round =>
  clear FS
  obtain ⟨j, hjM, rfl, FS⟩ := hrel
  by_cases hlt : j < M
  ·obtain ⟨b, hb⟩ : ∃ b, es[j]? = some b := ⟨_, List.getElem?_eq_getElem (by rw [HM.out]; exact hlt)⟩
   have hb2 : b < 4294967296 := HES.out b (List.mem_of_getElem? hb)
   obtain ⟨ad, rfl, hcd⟩ := (HR.out.below (HB0.out.trans (FS.out.bel.mono hbs1))) j (by rw [HM.out]; exact hlt)
   have cb : wr.cell? (ad.add j) = some (.int .u32 (b : Int)) := by
    rw [hcd, List.getD_eq_getElem?_getD, hb]
    rfl
   have HBJ := Lib.hid hb
   obtain ⟨k0, k1, k2, k3, k4', k5, k6⟩ := fcells FS.out.ptr
   clear hb hcd k0 k1 k2 k3 k4' k6
   have hnn : 1 + j < maxLen := by have h2 := HMs.out; unfold maxLen; omega
   go_wp2_with (at_mapUpdate; refine wp_put rfl _ _ _ 60 4 (.inl rfl) Try.underlying60 bl (1 + j) _ rfl FS.out.ml hnn b hb2 (.bool true) rfl rfl ?_; intro wH hkm hgm)
   refine ⟨⟨j + 1, by omega, by go_num, Lib.hid ?_⟩, by simp [intOf]; omega⟩
   refine FS.out.putL (KM.congr hkm (fun x => ?_)) hgm
   rw [glead_put, List.take_add_one, HBJ.out, List.reverse_append]
   rfl
  ·have hjM' : j = M := by omega
   subst hjM'
   have HL : Hid ((es.take j).reverse ++ [E] = es.reverse ++ [E]) := Lib.hid (by rw [List.take_of_length_le (by rw [HM.out]; exact Nat.le_refl _)])
   have HBr := Lib.hid (HB0.out.trans (FS.out.bel.mono hbs1))
   have HX1 : Hid (wr.drew.heap[w.heap.size]? = some (.cells #[.int .u32 B, .int .u32 (E : Int), .slice A len cap, .int .i64 S] 32 (0, 0))) := Lib.hid ((FS.out.bel.block w.heap.size hbs2).trans HX0.out)
   go_wp2
   refine wp_region_held_drew (S := fun w' => w'.heap[w.heap.size]? = some (.cells #[.int .u32 B, .int .u32 (E : Int), .slice A len cap, .int .i64 S] 32 (0, 0))) (by kernel_rfl) HX1.out (fun hHeld => ?_)
   refine rq (v := ?_) 0 35 rfl rfl (Or.inl ⟨by rfl, ?_⟩) hHeld ?_
   rotate_left
   ·(intro w hSw; clear hSw; go_simp; try with_reducible rfl)
   simp only [Act.put, sa, s0', s1']
   refine rq (v := ?_) 1 36 rfl rfl (Or.inl ⟨by rfl, ?_⟩) hHeld ?_
   rotate_left
   ·(intro w hSw; clear hSw; go_simp; try with_reducible rfl)
   simp only [Act.put, sa, s0', s1']
   refine rq (v := ?_) 3 38 rfl rfl (Or.inl ⟨by rfl, ?_⟩) hHeld ?_
   rotate_left
   ·(intro w hSw; have s1 := cell_of_row _ _ 1 _ _ _ hSw; go_simp; try with_reducible rfl)
   simp only [Act.put, sa, s0', s1']
   refine rq (v := ?_) 4 39 rfl rfl (Or.inl ⟨by rfl, ?_⟩) hHeld ?_
   rotate_left
   ·(intro w hSw; have s1 := cell_of_row _ _ 1 _ _ _ hSw; go_simp; try with_reducible rfl)
   simp only [Act.put, sa, s0', s1']
   have hCL := Clone_o A0 c0 j es HM.out
   have CL := Lib.hid hCL
   have hwr : w.heap.size < wr.heap.size := by have := FS.out.b1; have := FS.out.b2; have := FS.out.sz; omega
   clear hCL
   refine twoWays (R := ?RR) (F := fun g o c W => OwnU W wr.heap.size (.slice o j c) es ∧ OwnU W wr.heap.size (.slice (some ⟨g, 0, none⟩) 1 1) [E] ∧ Below wr.heap.size wr W) (fun H => ?one) ?two
   case one =>
    refine wpAnyH_ready (rs := [2, 5]) (by kernel_rfl) (by simp) ?_
    refine AllReadyH.cons (i := 2) rfl (fun KA hKA => ?_) (AllReadyH.cons (i := 5) rfl (fun KB hKB => ?_) AllReadyH.nil)
    ·go_simp
     refine (CL.out wr.drew (HR.out.below HBr.out.drew) (by omega)).mono ?_
     rintro e W1 ⟨o, cp, rfl, ho1, hb1⟩
     have hb1' : Below wr.heap.size wr W1 := (Below.refl wr.heap.size wr).drew.trans hb1
     go_wp2_with fail
     refine hKA.out _ _ ((hb1'.block w.heap.size hwr).trans HX1.out) (fun hHeld => ?_)
     clear hKA KA
     try simp only [Act.put, sa, s0', s1']
     refine wpAnyH_ready (rs := [5]) (by kernel_rfl) (by simp) ?_
     refine AllReadyH.cons (i := 5) rfl (fun KA hKA => ?_) AllReadyH.nil
     go_simp
     refine absK (F := fun W => W = W1.alloc (.cells #[.int .u32 (E : Int)] 24)) rfl ?_
     rintro W8 hW8
     obtain ⟨g4, hg4⟩ : ∃ g4, g4 = W1.heap.size := ⟨_, rfl⟩
     rw [← hg4]
     have k1 : OwnU W8 W1.heap.size (.slice (some ⟨g4, 0, none⟩) 1 1) [E] := by rw [hW8, hg4]; exact row1 W1 E
     have k2 : OwnU W8 wr.heap.size (.slice o j cp) es := by rw [hW8]; exact World.ownsRow.alloc ho1 _
     have k3 : Below wr.heap.size wr W8 := by rw [hW8]; exact hb1'.alloc hb1'.size _
     clear hW8 hg4
     refine hKA.out _ _ ((k3.block w.heap.size hwr).trans HX1.out) (fun hHeld => ?_)
     clear hKA KA
     try simp only [Act.put, sa, s0', s1']
     exact H g4 o cp W8 ⟨k2, k1.lower hb1'.size, k3⟩
    ·go_simp
     obtain ⟨g4, hg4⟩ : ∃ g4, g4 = wr.heap.size := ⟨_, rfl⟩
     refine absK (F := fun W => W = wr.drew.alloc (.cells #[.int .u32 (E : Int)] 24)) rfl ?_
     rintro W8 hW8
     rw [← hg4]
     have k1 : OwnU W8 wr.heap.size (.slice (some ⟨g4, 0, none⟩) 1 1) [E] := by rw [hW8, hg4]; exact row1 wr.drew E
     have k3 : Below wr.heap.size wr W8 := by rw [hW8]; exact (Below.refl wr.heap.size wr).drew.alloc (Nat.le_refl _) _
     clear hW8 hg4
     refine hKB.out _ _ ((k3.block w.heap.size hwr).trans HX1.out) (fun hHeld => ?_)
     clear hKB KB
     try simp only [Act.put, sa, s0', s1']
     refine wpAnyH_ready (rs := [2]) (by kernel_rfl) (by simp) ?_
     refine AllReadyH.cons (i := 2) rfl (fun KA hKA => ?_) AllReadyH.nil
     go_simp
     refine (CL.out W8 (HR.out.below (HBr.out.trans (k3.mono HBr.out.size))) (by omega)).mono ?_
     rintro e W1 ⟨o, cp, rfl, ho1, hb1⟩
     have k4 : Below wr.heap.size wr W1 := k3.trans (hb1.mono k3.size)
     go_wp2_with fail
     refine hKA.out _ _ ((k4.block w.heap.size hwr).trans HX1.out) (fun hHeld => ?_)
     clear hKA KA
     try simp only [Act.put, sa, s0', s1']
     exact H g4 o cp W1 ⟨ho1.lower k3.size, OwnU.kept' k1 (grownB' hb1 none) (by intro k hk; cases hk), k4⟩
   case two =>
    rintro g4 o cp W ⟨k1, k2, k3⟩
    have hHeld := (k3.block w.heap.size hwr).trans HX1.out
    refine wpAnyH_ready (rs := [6]) (by kernel_rfl) (by simp) ?_
    refine AllReadyH.cons (i := 6) rfl (fun KA hKA => ?_) AllReadyH.nil
    rw [if_pos (by rfl)]
    have hj1 : es.length < 100000000 := by rw [HM.out]; omega
    refine wp_appO _ _ rfl wr.heap.size (.slice o j cp) es [E] ⟨g4, 0, none⟩ 1 1 rfl rfl k1 rfl k2.rd hj1 (by simp) k3.size ?_
    intro v2 W2 ho2 hg2
    have k4 : Below wr.heap.size wr W2 := OwnU.grow k1 k3 (Nat.le_refl _) hg2
    obtain ⟨o2, c2, rfl, hc2, hrd2⟩ := ho2.opt
    have hl2 : (es ++ [E]).length = j + 1 := by rw [List.length_append, HM.out]; rfl
    rw [hl2]
    refine hKA.out _ _ ((k4.block w.heap.size hwr).trans HX1.out) (fun hHeld => ?_)
    clear hKA KA
    try simp only [Act.put, sa, s0', s1']
    refine wpAnyH_ready (rs := [7]) (by kernel_rfl) (by simp) ?_
    refine AllReadyH.cons (i := 7) rfl (fun KA hKA => ?_) AllReadyH.nil
    go_simp
    have FW := (FS.out.rebase.below k4).rebase
    rw [HL.out] at FW
    have hBW : Below w.heap.size w W2 := HBr.out.trans (k4.mono HBr.out.size)
    have hcall := reach_calls bs p bs bl bb (1 + j) (j + 1) F B (E : Int) A len cap S I aft nd (rs0 E es) W2 o2 c2 AF.out EN.out (fun a w' ha hb => AT.out a w' ha (hBW.trans (hb.mono hbs1))) A2.out (es ++ [E]) (j + 1) hl2 (by simp [rs0]) hrd2
     (RInv.zero E es hE HES.out).l1 (by simp [rs0, HM.out]) (by have := HMs.out; omega) (by have := HMs.out; omega) FW T HT.out.symm (by rw [← HT.out]; exact HFI.out)
    refine hcall.mono ?_
    rintro e W3 ⟨rfl, v3, nn, hnn, FR⟩
    have hBR : Below bs W2 W3 := FR.bel
    have hbsW : w.heap.size < W2.heap.size := by have := k4.size; omega
    go_wp2_with fail
    refine hKA.out _ _ ((hBR.block w.heap.size hbs2).trans ((k4.block w.heap.size hwr).trans HX1.out)) (fun hHeld => ?_)
    clear hKA KA hcall
    try simp only [Act.put, sa, s0', s1']
    refine wpAnyH_done (by kernel_rfl) ?_ _
    have FF := Lib.hid FR.rebase
    have HB3 := Lib.hid (hBW.trans (hBR.mono hbs1))
    have hnn2 : nn < 1000000 := by have := HMs.out; omega
    clear hHeld FR FW hBR hBW k1 k2 k3 k4 ho2 hg2 hrd2 hnn CL HX1 HBr HL FS HFI HM hl2 hj1 hc2
    obtain ⟨kp0, kp1, kp2, kp3, kp4, kp5, kp6⟩ := fcells FF.out.ptr
    obtain ⟨D, hoD, hszD, hpD⟩ := FF.out.mb.keys T.bad HI.out.b1 HI.out.b2 (gbad_some I T.bad)
    have hszn := hoD.size_le
    have HOD := Lib.hid hoD
    have HPD := Lib.hid hpD
    obtain ⟨K, hK⟩ : ∃ K, T.bad.length = K := ⟨_, rfl⟩
    rw [hK] at hszD
    have HK := Lib.hid hK
    rw [hszD] at hszn
    have HSZ := Lib.hid hszD
    clear hoD hpD hK hszD kp0 kp1 kp2 kp3
    obtain ⟨c6, hc6⟩ : ∃ c, c = kp6 := ⟨_, rfl⟩
    clear hc6 c6
    have FD := Lib.hid (FF.out.below (Below.refl _ _).drew)
    cases hsb : sortv T.bad with
    | cons b r =>
     have hKp : 0 < K := by rw [← HK.out, ← sortv_length, hsb]; simp
     have hbm : b ∈ T.bad := (sortv_perm T.bad).mem_iff.1 (by rw [hsb]; simp)
     have hb2 : b < 4294967296 := HI.out.b2 b hbm
     have hRe : R = ([], (I b).2) := by
      rw [← HRR.out]
      unfold findv
      rw [HT.out, hsb]
     have HSB := Lib.hid hsb
     have HG := Lib.hid (show gbad I T.bad b = some (.int .i64 (I b).2) by simp [gbad, hbm])
     obtain ⟨ev, hev⟩ : ∃ e, (I b).2 = e := ⟨_, rfl⟩
     rw [hev] at HG hRe
     have HRe := Lib.hid hRe
     clear hsb hbm hRe hev
     go_wp2_with (at_len; refine wpList_len_own _ rfl _ 61 rfl 24 35 Try.underlying61 heldR bb nn D rfl HOD.out ?_; rw [HSZ.out])
     refine wp_region_held_drew (S := fun w' => w'.cell? ⟨p, 6, none⟩ = some (.map (some bb)) ∧ KM w' bb nn (gbad I T.bad)) (by kernel_rfl) ⟨kp6, FD.out.mb⟩ (fun hHeld => ?_)
     refine rq (v := ?_) 0 49 rfl rfl (Or.inl ⟨by rfl, ?_⟩) hHeld ?_
     rotate_left
     ·(intro w hSw; obtain ⟨s1, s2⟩ := hSw; clear s2; go_simp; try with_reducible rfl)
     simp only [Act.put, sa, s0', s1']
     refine rq (v := ?_) 1 50 rfl rfl (Or.inl ⟨by rfl, ?_⟩) hHeld ?_
     rotate_left
     ·(intro w hSw; obtain ⟨s1, s2⟩ := hSw; clear s2; go_simp; try with_reducible rfl)
     simp only [Act.put, sa, s0', s1']
     refine rq (v := ?_) 2 51 rfl rfl (Or.inl ⟨by rfl, ?_⟩) hHeld ?_
     rotate_left
     ·(intro w hSw; obtain ⟨s1, s2⟩ := hSw; clear s2; go_simp; try with_reducible rfl)
     simp only [Act.put, sa, s0', s1']
     refine rq (v := ?_) 3 52 rfl rfl (Or.inl ⟨by rfl, ?_⟩) hHeld ?_
     rotate_left
     ·(intro w hSw; obtain ⟨s1, s2⟩ := hSw; clear s2; go_simp; try with_reducible rfl)
     simp only [Act.put, sa, s0', s1']
     refine rq (v := ?_) 4 53 rfl rfl (Or.inl ⟨by rfl, ?_⟩) hHeld ?_
     rotate_left
     ·(intro w hSw; obtain ⟨s1, s2⟩ := hSw; clear s2; go_simp; try with_reducible rfl)
     simp only [Act.put, sa, s0', s1']
     refine rq (v := ?_) 5 54 rfl rfl (Or.inl ⟨by rfl, ?_⟩) hHeld ?_
     rotate_left
     ·(intro w hSw; obtain ⟨s1, s2⟩ := hSw; clear s2; go_simp; try with_reducible rfl)
     simp only [Act.put, sa, s0', s1']
     refine rq (v := ?_) 6 55 rfl rfl (Or.inl ⟨by rfl, ?_⟩) hHeld ?_
     rotate_left
     ·(intro w hSw; obtain ⟨s1, s2⟩ := hSw; clear s2; go_simp; try with_reducible rfl)
     simp only [Act.put, sa, s0', s1']
     refine rq (v := ?_) 7 56 rfl rfl (Or.inl ⟨by rfl, ?_⟩) hHeld ?_
     rotate_left
     ·(intro w hSw; obtain ⟨s1, s2⟩ := hSw; clear s2; go_simp; try with_reducible rfl)
     simp only [Act.put, sa, s0', s1']
     refine wpAnyH_ready (rs := [8]) (by kernel_rfl) (by simp) ?_
     refine AllReadyH.cons (i := 8) rfl (fun K hK => ?_) AllReadyH.nil
     go_simp
     refine (Ie.keysU_calls _ _).mono ?_
     rintro e w1 ⟨rfl, rfl⟩
     go_wp2_with fail
     have hbk : Below W3.heap.size W3 (W3.drew.alloc (.cells #[.map (some bb)] 61)) := (Below.refl W3.heap.size W3).drew.alloc (Nat.le_refl _) _
     have FE := Lib.hid (FF.out.below hbk)
     refine hK.out _ _ ⟨(fcells FE.out.ptr).2.2.2.2.2.2, FE.out.mb⟩ (fun hHeld => ?_)
     clear hK
     try simp only [Act.put, sa, s0', s1']
     refine wpAnyH_ready (rs := [9]) (by kernel_rfl) (by simp) ?_
     refine AllReadyH.cons (i := 9) rfl (fun KA hKA => ?_) AllReadyH.nil
     go_simp
     have hco := Ie.collectU (H := Value) bb nn W3.heap.size D heldR (W3.drew.alloc (.cells #[.map (some bb)] 61)) (by show W3.drew.heap.size < _; simp) (cell_new1 W3.drew _ _) (HOD.out.alloc _) (by rw [HSZ.out]; unfold maxLen; omega) (by rw [HSZ.out]; omega)
     refine hco.mono ?_
     rintro e w2 ⟨v4, ss, rfl, hp4, ho4, -, hb4⟩
     obtain ⟨ms, hms, hom⟩ := own_nat (HPD.out ss hp4) ho4
     obtain ⟨o4, c4, rfl, -, hr4⟩ := hom.opt
     have FG := Lib.hid (FE.out.below hb4)
     go_wp2_with fail
     refine hKA.out _ _ ⟨(fcells FG.out.ptr).2.2.2.2.2.2, FG.out.mb⟩ (fun hHeld => ?_)
     clear hKA KA hco
     try simp only [Act.put, sa, s0', s1']
     refine wpAnyH_ready (rs := [10]) (by kernel_rfl) (by simp) ?_
     refine AllReadyH.cons (i := 10) rfl (fun KA hKA => ?_) AllReadyH.nil
     go_simp
     refine (Min_calls o4 c4 ms w2 hr4 (by rw [hms.length_eq, HK.out]; omega) (by rw [hms.length_eq, HK.out]; exact hKp)).mono ?_
     rintro e w2' ⟨rfl, rfl⟩
     rw [mnv_sort T.bad ms hms b r HSB.out]
     go_wp2_with fail
     refine hKA.out _ _ ⟨(fcells FG.out.ptr).2.2.2.2.2.2, FG.out.mb⟩ (fun hHeld => ?_)
     clear hKA KA
     try simp only [Act.put, sa, s0', s1']
     refine rq (v := .int .i64 ev) 11 60 rfl rfl (Or.inl ⟨by rfl, fun w hSw => xlook _ _ 61 35 rfl Try.underlying61 (.int .i64 0) (by kernel_rfl) bb nn _ rfl hSw.2 b hb2 rfl _ HG.out⟩) hHeld ?_
     simp only [Act.put, sa, s0', s1']
     refine rq (v := ?_) 12 4 rfl rfl (Or.inl ⟨by rfl, ?_⟩) hHeld ?_
     rotate_left
     ·(intro w hSw; clear hSw; go_simp; try with_reducible rfl)
     simp only [Act.put, sa, s0', s1']
     refine rq (v := ?_) 13 5 rfl rfl (Or.inl ⟨by rfl, ?_⟩) hHeld ?_
     rotate_left
     ·(intro w hSw; clear hSw; go_simp; try with_reducible rfl)
     simp only [Act.put, sa, s0', s1']
     refine wpAnyH_done (by kernel_rfl) ?_ _
     have hBe : Below w.heap.size w w2 := HB3.out.trans ((hbk.mono HB3.out.size).trans (hb4.mono (Nat.le_trans HB3.out.size hbk.size)))
     have HBE := Lib.hid hBe
     clear hHeld hBe hb4 hbk FG FE hom hr4 ho4 hp4
     go_wp2
     refine bodyPost_ret (results_tmp2 rfl _ _ _) rfl ?_
     rw [HRe.out]
     exact ⟨_, rfl, World.ownsRow_nil _ _ _ _, HBE.out⟩
    | nil =>
     have hK0 : K = 0 := by rw [← HK.out, ← sortv_length, hsb]; rfl
     subst hK0
     obtain ⟨D2, hoD2, hszD2, hpD2⟩ := FF.out.ms.keys T.seen HI.out.s1 HI.out.s2 (gseen_some I T.seen)
     have hszn2 := hoD2.size_le
     have HOD2 := Lib.hid hoD2
     have HPD2 := Lib.hid hpD2
     obtain ⟨ks, hks⟩ : ∃ ks, sortv T.seen = ks := ⟨_, rfl⟩
     have hkmem : ∀ a, a ∈ ks ↔ a ∈ T.seen := fun a => by rw [← hks]; exact (sortv_perm T.seen).mem_iff
     have HKM := Lib.hid hkmem
     obtain ⟨N, hN⟩ : ∃ N, ks.length = N := ⟨_, rfl⟩
     have hNs : N = Maps.size D2 := by rw [← hN, ← hks, sortv_length, hszD2]
     have hNb : N < 1000000 := by rw [hNs]; omega
     have HNS := Lib.hid hNs
     have HKS := Lib.hid hks
     have HN := Lib.hid hN
     have hRe : R = ((bfold I nd T.lead ks N).1, 0) := by
      rw [← HRR.out]
      unfold findv bfold
      rw [HT.out, hsb, hks, List.take_of_length_le (by rw [hN]; exact Nat.le_refl _)]
     have HRe := Lib.hid hRe
     clear hoD2 hpD2 hks hkmem hN hNs hRe hszD2 hszn2 hsb FD
     go_wp2_with (first
      | (at_len; refine wpList_len_own _ rfl _ 61 rfl 24 35 Try.underlying61 heldR bb nn D rfl HOD.out ?_; rw [HSZ.out])
      | (go_at_call 41; refine (Ie.keysUI_calls _ _).mono ?_; rintro e w1 ⟨rfl, rfl⟩)
      | (go_at_call 40; refine hold_ ?_))
     intro _
     refine (Ie.sortedUI (H := Value) bs nn W3.heap.size D2 heldR _ (by simp) (cell_new1 W3 _ _) (HOD2.out.alloc _) (by rw [← HNS.out]; unfold maxLen; omega) (by rw [← HNS.out]; omega)).mono ?_
     rintro e W4 ⟨v4, ss, rfl, hp4, ho4, -, hb4⟩
     have hok := own_sorted (HPD2.out ss hp4) ho4
     rw [HKS.out] at hok
     obtain ⟨o4, c4, rfl, -, hr4⟩ := hok.opt
     have hb4' : Below W3.heap.size W3 W4 := ((Below.refl W3.heap.size W3).alloc (Nat.le_refl _) _).trans (hb4.mono (by simp))
     have FG := Lib.hid ((FF.out.below hb4').rebase)
     have HB4 := Lib.hid (HB3.out.trans (hb4'.mono HB3.out.size))
     have HR4 := Lib.hid hr4
     clear hp4 ho4 hok hr4 hb4 hb4' FF HOD2 HPD2 HOD HPD HB3
     rw [HN.out]
     go_simp
     try rw [Oper.upon_value]
     go_wp2
     go_loopw [9, 10, 11, 68] (fun s9 s10 s11 s68 wx => ∃ (j : Nat) (op : Bool) (la : Nat) (bl' : List (Nat × Nat)), j ≤ N ∧ s68 = .int .i64 j ∧ s10 = .bool op ∧ s11 = .int .u32 (la : Int) ∧ Hid (bfold I nd T.lead ks j = (bl', op, la)) ∧ Hid (OwnB wx W4.heap.size s9 bl') ∧ Hid (Below W4.heap.size W4 wx) ∧ Hid ((op = true → bl' ≠ []) ∧ (∀ y ∈ bl', y.2 ≤ j) ∧ bl'.length ≤ j)) (fun _ _ _ s68 _ => N - (intOf s68).toNat)
     case atStart => exact ⟨0, false, 0, [], Nat.zero_le _, rfl, rfl, rfl, Lib.hid rfl, Lib.hid (World.ownsRow_nil _ _ _ _), Lib.hid (Below.refl _ _), Lib.hid ⟨by simp, by simp, Nat.le_refl _⟩⟩
     case round =>
      obtain ⟨j, op, la, bl', hjN, rfl, rfl, rfl, HBF, HO, HB, HBN⟩ := hrel
      by_cases hlt : j < N
      ·obtain ⟨a, ha⟩ : ∃ a, ks[j]? = some a := ⟨_, List.getElem?_eq_getElem (by rw [HN.out]; exact hlt)⟩
       have hak : a ∈ T.seen := (HKM.out a).1 (List.mem_of_getElem? ha)
       have ha2 : a < 4294967296 := HI.out.s2 a hak
       obtain ⟨ad, rfl, hcd⟩ := (HR4.out.below HB.out) j (by rw [HN.out]; exact hlt)
       have ca : wr.cell? (ad.add j) = some (.int .u32 (a : Int)) := by
        rw [hcd, List.getD_eq_getElem?_getD, ha]
        rfl
       have HAJ := Lib.hid (bfold_step I nd T.lead ks j a ha)
       have HSE := Lib.hid (show gseen I T.seen a = some (iv (I a).1) by simp [gseen, hak])
       have FX := Lib.hid (FG.out.below HB.out)
       obtain ⟨q0, q1, q2, q3, q4, q5, q6⟩ := fcells FX.out.ptr
       obtain ⟨U, hU⟩ : ∃ U, nextv la = U := ⟨_, rfl⟩
       have eU : ((la : Int) + 4) % 4294967296 = (U : Int) := by rw [← hU]; unfold nextv; omega
       have HU := Lib.hid hU
       clear ha hak hcd q0 q1 q2 q3 q6 hU
       cases op with
       | false =>
         have hll : bl'.length < 100000000 := by have := HBN.out.2.2; omega
         go_wp2_with ((with_reducible refine gate_dst (N := 92) rfl ?_); refine hold_ ?_)
         intro _
         refine wp_appB rfl _ _ rfl W4.heap.size u9 bl' a 0 rfl HO.out 1 rfl hll HB.out.size ?_
         intro v2 w2 ho2 hg2 hne2
         obtain ⟨g2, cap2, rfl⟩ : ∃ g2 cap2, v2 = .slice (some ⟨g2, 0, none⟩) (bl' ++ [(a, 0)]).length cap2 := by
          rcases ho2.2 with ⟨h1, _⟩ | ⟨g2, cap2, cur, e, _⟩
          ·exact absurd h1 hne2
          ·exact ⟨g2, cap2, e⟩
         obtain ⟨kk, hkk⟩ : ∃ k, bl'.length = k := ⟨_, rfl⟩
         have hkj : kk ≤ j := by rw [← hkk]; exact HBN.out.2.2
         have hlk : (bl' ++ [(a, 0)]).length = kk + 1 := by simp [hkk]
         obtain ⟨L, hL⟩ : ∃ L, bl' = L := ⟨_, rfl⟩
         obtain ⟨c, hc⟩ : ∃ c : Nat, 0 = c := ⟨_, rfl⟩
         obtain ⟨x, hx⟩ : ∃ x : Nat, a = x := ⟨_, rfl⟩
         have HO2 : Hid (OwnB w2 W4.heap.size (.slice (some ⟨g2, 0, none⟩) (kk + 1) cap2) (L ++ [(x, c)])) := Lib.hid (by rw [← hL, ← hc, ← hx, ← hlk]; exact ho2)
         have HB2 : Hid (Below W4.heap.size W4 w2) := Lib.hid (HB.out.grown hg2 HB.out.size (fun k hk => (World.ownsRow.lt HO.out k hk).1))
         have HCB : Hid (∀ y ∈ L ++ [(x, c)], y.2 ≤ j) := Lib.hid (by
          intro y hy
          rw [← hL, ← hc] at hy
          rcases List.mem_append.1 hy with hy | hy
          ·exact HBN.out.2.1 y hy
          ·rw [List.mem_singleton.1 hy]; exact Nat.zero_le _)
         have HKK : Hid (L.length = kk) := Lib.hid (by rw [← hL]; exact hkk)
         have HST : Hid (bstep I nd T.lead (bl', false, la) a = (bump (L ++ [(x, c)]), !nd (I a).1, a)) := Lib.hid (by
          show (bump (if false = false ∨ a ∈ T.lead ∨ a ≠ nextv la then bl' ++ [(a, 0)] else bl'), !nd (I a).1, a) = _
          rw [if_pos (Or.inl rfl), hL, hc, hx])
         rw [hlk]
         clear ho2 hg2 hne2 hkk hlk hL hc hx hll
         go_simp
         try rw [Oper.upon_value]
         obtain ⟨hc1, hc2, hc3, hc4⟩ := OwnB.inc HO2.out
         have hcb : c < 1000000 := by have := HCB.out (x, c) (by simp); simp only at this; omega
         rw [HKK.out] at hc1 hc2 hc3 hc4
         have HO3 := Lib.hid hc3
         have HG3 := Lib.hid hc4
         have HO2b := (World.ownsRow.lt HO2.out g2 rfl).1
         clear hc3 hc4
         go_wp2_with ((with_reducible refine gate_dst (N := 106) rfl ?_); refine hold_ ?_)
         intro _
         have HBY := Lib.hid (HB2.out.grown HG3.out HB2.out.size (by rintro k ⟨⟩; exact HO2b))
         generalize w2.setCell ⟨g2, kk * 2 + 1, none⟩ (.int .i64 ((c : Int) + 1)) = wY at *
         clear HG3 HO2b hc1 hc2 HO2 HB2
         have FY := Lib.hid (FG.out.below HBY.out)
         obtain ⟨q0, q1, q2, q3, q4, q5, q6⟩ := fcells FY.out.ptr
         go_wp2_with (first
          | (at_lookup; refine wp_look1 rfl _ _ _ 23 rfl Try.underlying59 (iv ins0) (zI _) bs nn _ rfl FY.out.ms a ha2 rfl _ HSE.out ?_)
          | (go_at_call 15; refine hold_ ?_))
         intro _
         refine (EN.out _ _ _ _ _ wY).mono ?_
         rintro e wZ ⟨rfl, hbz⟩
         obtain ⟨nv, hnv⟩ : ∃ b, nd (I a).1 = b := ⟨_, rfl⟩
         have HNV := Lib.hid hnv
         have HBZ := Lib.hid (HBY.out.trans (hbz.mono HBY.out.size))
         have HOZ := Lib.hid (OwnB.kept' HO3.out (grownB' hbz none) (by intro k hk; cases hk))
         clear q0 q1 q2 q3 q4 q5 q6 hbz FY HO3 HBY
         rw [show nd ((I a).1.1, (I a).1.2.1, (I a).1.2.2.1, (I a).1.2.2.2.1, (I a).1.2.2.2.2) = nv from hnv]
         clear hnv
         go_simp
         try rw [Oper.upon_value]
         go_wp2
         have hbf := bump_facts L x c j HCB.out
         refine ⟨⟨j + 1, !nv, a, bump (L ++ [(x, c)]), by omega, by go_num, rfl, rfl, Lib.hid ?_, HOZ, HBZ, Lib.hid ⟨fun _ => hbf.1, hbf.2.1, ?_⟩⟩, by simp [intOf]; omega⟩
         ·rw [HAJ.out, HBF.out, HST.out, HNV.out]
         ·rw [hbf.2.2, HKK.out]
          omega
        | true =>
         by_cases hle : a ∈ T.lead
         ·have lk : (Instr.lookup 60 (.map (some bl)) (.int .u32 (a : Int)) false).run Try.prog wr = .ok (.bool true) wr := KM.look FX.out.ml 60 4 Try.underlying60 (.bool false) (zB _) a ha2 (some (.bool true)) (by simp [glead, hle])
          have HLE := Lib.hid hle
          clear hle
          have hll : bl'.length < 100000000 := by have := HBN.out.2.2; omega
          go_wp2_with ((with_reducible refine gate_dst (N := 92) rfl ?_); refine hold_ ?_)
          intro _
          refine wp_appB rfl _ _ rfl W4.heap.size u9 bl' a 0 rfl HO.out 1 rfl hll HB.out.size ?_
          intro v2 w2 ho2 hg2 hne2
          obtain ⟨g2, cap2, rfl⟩ : ∃ g2 cap2, v2 = .slice (some ⟨g2, 0, none⟩) (bl' ++ [(a, 0)]).length cap2 := by
           rcases ho2.2 with ⟨h1, _⟩ | ⟨g2, cap2, cur, e, _⟩
           ·exact absurd h1 hne2
           ·exact ⟨g2, cap2, e⟩
          obtain ⟨kk, hkk⟩ : ∃ k, bl'.length = k := ⟨_, rfl⟩
          have hkj : kk ≤ j := by rw [← hkk]; exact HBN.out.2.2
          have hlk : (bl' ++ [(a, 0)]).length = kk + 1 := by simp [hkk]
          obtain ⟨L, hL⟩ : ∃ L, bl' = L := ⟨_, rfl⟩
          obtain ⟨c, hc⟩ : ∃ c : Nat, 0 = c := ⟨_, rfl⟩
          obtain ⟨x, hx⟩ : ∃ x : Nat, a = x := ⟨_, rfl⟩
          have HO2 : Hid (OwnB w2 W4.heap.size (.slice (some ⟨g2, 0, none⟩) (kk + 1) cap2) (L ++ [(x, c)])) := Lib.hid (by rw [← hL, ← hc, ← hx, ← hlk]; exact ho2)
          have HB2 : Hid (Below W4.heap.size W4 w2) := Lib.hid (HB.out.grown hg2 HB.out.size (fun k hk => (World.ownsRow.lt HO.out k hk).1))
          have HCB : Hid (∀ y ∈ L ++ [(x, c)], y.2 ≤ j) := Lib.hid (by
           intro y hy
           rw [← hL, ← hc] at hy
           rcases List.mem_append.1 hy with hy | hy
           ·exact HBN.out.2.1 y hy
           ·rw [List.mem_singleton.1 hy]; exact Nat.zero_le _)
          have HKK : Hid (L.length = kk) := Lib.hid (by rw [← hL]; exact hkk)
          have HST : Hid (bstep I nd T.lead (bl', true, la) a = (bump (L ++ [(x, c)]), !nd (I a).1, a)) := Lib.hid (by
           show (bump (if true = false ∨ a ∈ T.lead ∨ a ≠ nextv la then bl' ++ [(a, 0)] else bl'), !nd (I a).1, a) = _
           rw [if_pos (Or.inr (Or.inl HLE.out)), hL, hc, hx])
          rw [hlk]
          clear ho2 hg2 hne2 hkk hlk hL hc hx hll
          go_simp
          try rw [Oper.upon_value]
          obtain ⟨hc1, hc2, hc3, hc4⟩ := OwnB.inc HO2.out
          have hcb : c < 1000000 := by have := HCB.out (x, c) (by simp); simp only at this; omega
          rw [HKK.out] at hc1 hc2 hc3 hc4
          have HO3 := Lib.hid hc3
          have HG3 := Lib.hid hc4
          have HO2b := (World.ownsRow.lt HO2.out g2 rfl).1
          clear hc3 hc4
          go_wp2_with ((with_reducible refine gate_dst (N := 106) rfl ?_); refine hold_ ?_)
          intro _
          have HBY := Lib.hid (HB2.out.grown HG3.out HB2.out.size (by rintro k ⟨⟩; exact HO2b))
          generalize w2.setCell ⟨g2, kk * 2 + 1, none⟩ (.int .i64 ((c : Int) + 1)) = wY at *
          clear HG3 HO2b hc1 hc2 HO2 HB2
          have FY := Lib.hid (FG.out.below HBY.out)
          obtain ⟨q0, q1, q2, q3, q4, q5, q6⟩ := fcells FY.out.ptr
          go_wp2_with (first
           | (at_lookup; refine wp_look1 rfl _ _ _ 23 rfl Try.underlying59 (iv ins0) (zI _) bs nn _ rfl FY.out.ms a ha2 rfl _ HSE.out ?_)
           | (go_at_call 15; refine hold_ ?_))
          intro _
          refine (EN.out _ _ _ _ _ wY).mono ?_
          rintro e wZ ⟨rfl, hbz⟩
          obtain ⟨nv, hnv⟩ : ∃ b, nd (I a).1 = b := ⟨_, rfl⟩
          have HNV := Lib.hid hnv
          have HBZ := Lib.hid (HBY.out.trans (hbz.mono HBY.out.size))
          have HOZ := Lib.hid (OwnB.kept' HO3.out (grownB' hbz none) (by intro k hk; cases hk))
          clear q0 q1 q2 q3 q4 q5 q6 hbz FY HO3 HBY
          rw [show nd ((I a).1.1, (I a).1.2.1, (I a).1.2.2.1, (I a).1.2.2.2.1, (I a).1.2.2.2.2) = nv from hnv]
          clear hnv
          go_simp
          try rw [Oper.upon_value]
          go_wp2
          have hbf := bump_facts L x c j HCB.out
          refine ⟨⟨j + 1, !nv, a, bump (L ++ [(x, c)]), by omega, by go_num, rfl, rfl, Lib.hid ?_, HOZ, HBZ, Lib.hid ⟨fun _ => hbf.1, hbf.2.1, ?_⟩⟩, by simp [intOf]; omega⟩
          ·rw [HAJ.out, HBF.out, HST.out, HNV.out]
          ·rw [hbf.2.2, HKK.out]
           omega
         ·have lk : (Instr.lookup 60 (.map (some bl)) (.int .u32 (a : Int)) false).run Try.prog wr = .ok (.bool false) wr := KM.look FX.out.ml 60 4 Try.underlying60 (.bool false) (zB _) a ha2 none (by simp [glead, hle])
          have HLE := Lib.hid hle
          clear hle
          by_cases hau : a = U
          ·have bu : ((a : Int) == (U : Int)) = true := beq_iff_eq.mpr (by omega)
           have HAU := Lib.hid hau
           have hne : bl' ≠ [] := HBN.out.1 rfl
           obtain ⟨L, ⟨x, c⟩, hL⟩ : ∃ L y, bl' = L ++ [y] := ⟨bl'.dropLast, bl'.getLast hne, (List.dropLast_concat_getLast hne).symm⟩
           obtain ⟨g2, cap2, rfl⟩ : ∃ g2 cap2, u9 = .slice (some ⟨g2, 0, none⟩) bl'.length cap2 := by
            rcases HO.out.2 with ⟨_, h1⟩ | ⟨g2, cap2, cur, e, _⟩
            ·rw [hL] at h1; simp at h1
            ·exact ⟨g2, cap2, e⟩
           obtain ⟨kk, hkk⟩ : ∃ k, L.length = k := ⟨_, rfl⟩
           have hlk : bl'.length = kk + 1 := by rw [hL]; simp [hkk]
           have hkj : kk ≤ j := by have := HBN.out.2.2; omega
           have HO2 : Hid (OwnB wr W4.heap.size (.slice (some ⟨g2, 0, none⟩) (kk + 1) cap2) (L ++ [(x, c)])) := Lib.hid (by rw [← hL, ← hlk]; exact HO.out)
           have HB2 := HB
           have HCB : Hid (∀ y ∈ L ++ [(x, c)], y.2 ≤ j) := Lib.hid (by rw [← hL]; exact HBN.out.2.1)
           have HKK : Hid (L.length = kk) := Lib.hid hkk
           have HST : Hid (bstep I nd T.lead (bl', true, la) a = (bump (L ++ [(x, c)]), !nd (I a).1, a)) := Lib.hid (by
            show (bump (if true = false ∨ a ∈ T.lead ∨ a ≠ nextv la then bl' ++ [(a, 0)] else bl'), !nd (I a).1, a) = _
            rw [if_neg (by rw [HU.out]; rintro (h | h | h) <;> first | cases h | exact HLE.out h | exact h HAU.out), hL])
           rw [hlk]
           clear hkk hlk hL hne hau
           skip
           go_wp2_with ((with_reducible refine gate_dst (N := 99) rfl ?_); refine hold_ ?_)
           intro _
           obtain ⟨hc1, hc2, hc3, hc4⟩ := OwnB.inc HO2.out
           have hcb : c < 1000000 := by have := HCB.out (x, c) (by simp); simp only at this; omega
           rw [HKK.out] at hc1 hc2 hc3 hc4
           have HO3 := Lib.hid hc3
           have HG3 := Lib.hid hc4
           have HO2b := (World.ownsRow.lt HO2.out g2 rfl).1
           clear hc3 hc4
           go_wp2_with ((with_reducible refine gate_dst (N := 106) rfl ?_); refine hold_ ?_)
           intro _
           have HBY := Lib.hid (HB2.out.grown HG3.out HB2.out.size (by rintro k ⟨⟩; exact HO2b))
           generalize wr.setCell ⟨g2, kk * 2 + 1, none⟩ (.int .i64 ((c : Int) + 1)) = wY at *
           clear HG3 HO2b hc1 hc2 HO2 HB2
           have FY := Lib.hid (FG.out.below HBY.out)
           obtain ⟨q0, q1, q2, q3, q4, q5, q6⟩ := fcells FY.out.ptr
           go_wp2_with (first
            | (at_lookup; refine wp_look1 rfl _ _ _ 23 rfl Try.underlying59 (iv ins0) (zI _) bs nn _ rfl FY.out.ms a ha2 rfl _ HSE.out ?_)
            | (go_at_call 15; refine hold_ ?_))
           intro _
           refine (EN.out _ _ _ _ _ wY).mono ?_
           rintro e wZ ⟨rfl, hbz⟩
           obtain ⟨nv, hnv⟩ : ∃ b, nd (I a).1 = b := ⟨_, rfl⟩
           have HNV := Lib.hid hnv
           have HBZ := Lib.hid (HBY.out.trans (hbz.mono HBY.out.size))
           have HOZ := Lib.hid (OwnB.kept' HO3.out (grownB' hbz none) (by intro k hk; cases hk))
           clear q0 q1 q2 q3 q4 q5 q6 hbz FY HO3 HBY
           rw [show nd ((I a).1.1, (I a).1.2.1, (I a).1.2.2.1, (I a).1.2.2.2.1, (I a).1.2.2.2.2) = nv from hnv]
           clear hnv
           go_simp
           try rw [Oper.upon_value]
           go_wp2
           have hbf := bump_facts L x c j HCB.out
           refine ⟨⟨j + 1, !nv, a, bump (L ++ [(x, c)]), by omega, by go_num, rfl, rfl, Lib.hid ?_, HOZ, HBZ, Lib.hid ⟨fun _ => hbf.1, hbf.2.1, ?_⟩⟩, by simp [intOf]; omega⟩
           ·rw [HAJ.out, HBF.out, HST.out, HNV.out]
           ·rw [hbf.2.2, HKK.out]
            omega
          ·have bu : ((a : Int) == (U : Int)) = false := beq_eq_false_iff_ne.mpr (by omega)
           have HAU := Lib.hid hau
           clear hau
           have hll : bl'.length < 100000000 := by have := HBN.out.2.2; omega
           go_wp2_with ((with_reducible refine gate_dst (N := 92) rfl ?_); refine hold_ ?_)
           intro _
           refine wp_appB rfl _ _ rfl W4.heap.size u9 bl' a 0 rfl HO.out 1 rfl hll HB.out.size ?_
           intro v2 w2 ho2 hg2 hne2
           obtain ⟨g2, cap2, rfl⟩ : ∃ g2 cap2, v2 = .slice (some ⟨g2, 0, none⟩) (bl' ++ [(a, 0)]).length cap2 := by
            rcases ho2.2 with ⟨h1, _⟩ | ⟨g2, cap2, cur, e, _⟩
            ·exact absurd h1 hne2
            ·exact ⟨g2, cap2, e⟩
           obtain ⟨kk, hkk⟩ : ∃ k, bl'.length = k := ⟨_, rfl⟩
           have hkj : kk ≤ j := by rw [← hkk]; exact HBN.out.2.2
           have hlk : (bl' ++ [(a, 0)]).length = kk + 1 := by simp [hkk]
           obtain ⟨L, hL⟩ : ∃ L, bl' = L := ⟨_, rfl⟩
           obtain ⟨c, hc⟩ : ∃ c : Nat, 0 = c := ⟨_, rfl⟩
           obtain ⟨x, hx⟩ : ∃ x : Nat, a = x := ⟨_, rfl⟩
           have HO2 : Hid (OwnB w2 W4.heap.size (.slice (some ⟨g2, 0, none⟩) (kk + 1) cap2) (L ++ [(x, c)])) := Lib.hid (by rw [← hL, ← hc, ← hx, ← hlk]; exact ho2)
           have HB2 : Hid (Below W4.heap.size W4 w2) := Lib.hid (HB.out.grown hg2 HB.out.size (fun k hk => (World.ownsRow.lt HO.out k hk).1))
           have HCB : Hid (∀ y ∈ L ++ [(x, c)], y.2 ≤ j) := Lib.hid (by
            intro y hy
            rw [← hL, ← hc] at hy
            rcases List.mem_append.1 hy with hy | hy
            ·exact HBN.out.2.1 y hy
            ·rw [List.mem_singleton.1 hy]; exact Nat.zero_le _)
           have HKK : Hid (L.length = kk) := Lib.hid (by rw [← hL]; exact hkk)
           have HST : Hid (bstep I nd T.lead (bl', true, la) a = (bump (L ++ [(x, c)]), !nd (I a).1, a)) := Lib.hid (by
            show (bump (if true = false ∨ a ∈ T.lead ∨ a ≠ nextv la then bl' ++ [(a, 0)] else bl'), !nd (I a).1, a) = _
            rw [if_pos (Or.inr (Or.inr (by rw [HU.out]; exact HAU.out))), hL, hc, hx])
           rw [hlk]
           clear ho2 hg2 hne2 hkk hlk hL hc hx hll
           go_simp
           try rw [Oper.upon_value]
           obtain ⟨hc1, hc2, hc3, hc4⟩ := OwnB.inc HO2.out
           have hcb : c < 1000000 := by have := HCB.out (x, c) (by simp); simp only at this; omega
           rw [HKK.out] at hc1 hc2 hc3 hc4
           have HO3 := Lib.hid hc3
           have HG3 := Lib.hid hc4
           have HO2b := (World.ownsRow.lt HO2.out g2 rfl).1
           clear hc3 hc4
           go_wp2_with ((with_reducible refine gate_dst (N := 106) rfl ?_); refine hold_ ?_)
           intro _
           have HBY := Lib.hid (HB2.out.grown HG3.out HB2.out.size (by rintro k ⟨⟩; exact HO2b))
           generalize w2.setCell ⟨g2, kk * 2 + 1, none⟩ (.int .i64 ((c : Int) + 1)) = wY at *
           clear HG3 HO2b hc1 hc2 HO2 HB2
           have FY := Lib.hid (FG.out.below HBY.out)
           obtain ⟨q0, q1, q2, q3, q4, q5, q6⟩ := fcells FY.out.ptr
           go_wp2_with (first
            | (at_lookup; refine wp_look1 rfl _ _ _ 23 rfl Try.underlying59 (iv ins0) (zI _) bs nn _ rfl FY.out.ms a ha2 rfl _ HSE.out ?_)
            | (go_at_call 15; refine hold_ ?_))
           intro _
           refine (EN.out _ _ _ _ _ wY).mono ?_
           rintro e wZ ⟨rfl, hbz⟩
           obtain ⟨nv, hnv⟩ : ∃ b, nd (I a).1 = b := ⟨_, rfl⟩
           have HNV := Lib.hid hnv
           have HBZ := Lib.hid (HBY.out.trans (hbz.mono HBY.out.size))
           have HOZ := Lib.hid (OwnB.kept' HO3.out (grownB' hbz none) (by intro k hk; cases hk))
           clear q0 q1 q2 q3 q4 q5 q6 hbz FY HO3 HBY
           rw [show nd ((I a).1.1, (I a).1.2.1, (I a).1.2.2.1, (I a).1.2.2.2.1, (I a).1.2.2.2.2) = nv from hnv]
           clear hnv
           go_simp
           try rw [Oper.upon_value]
           go_wp2
           have hbf := bump_facts L x c j HCB.out
           refine ⟨⟨j + 1, !nv, a, bump (L ++ [(x, c)]), by omega, by go_num, rfl, rfl, Lib.hid ?_, HOZ, HBZ, Lib.hid ⟨fun _ => hbf.1, hbf.2.1, ?_⟩⟩, by simp [intOf]; omega⟩
           ·rw [HAJ.out, HBF.out, HST.out, HNV.out]
           ·rw [hbf.2.2, HKK.out]
            omega
      ·have hjN' : j = N := by omega
       subst hjN'
       go_wp2
       refine bodyPost_ret (results_tmp2 rfl _ _ _) rfl ?_
       rw [HRe.out, HBF.out]
       exact ⟨_, rfl, OwnB.lower HO.out HB4.out.size, HB4.out.trans (HB.out.mono HB4.out.size)⟩
end Go.Proofs.Ytekenddkoahjgaa.Bl
