import Derived.Test.YtcjbdfhofpfooaaZGC
import Derived.RangeFuncNested
import Derived.RangeFuncBound
import Derived.RangeFuncCalls
import Derived.RangeFuncLeaves
import Derived.RangeFuncBox
import Derived.Maps.OwnIn
import Derived.RangeFuncMany
import Derived.RangeFuncOne
import Derived.Shelf.Abstract
import Derived.Shelf.RegionOpen
import Derived.WalkKit
import Derived.OwnWalkIn
import Derived.TacticsInMore
import Derived.RegionIn
import Derived.LoopNIn
import Derived.LoopIn
import Derived.Maps.AppendAt
import Derived.KernelRfl
import Derived.StillTailTactics
import Derived.Outline
import Derived.RegionTactic
import Derived.ChangeAlike
import Derived.BigRegion
import Derived.Deep.RegionWith
import Derived.LoopTactic
import Derived.BigQuiet
import Derived.Lib.Hide
/- Layer 18: the walks of package grammar (part GD). -/
namespace Go.Proofs.Ytcjbdfhofpfooaa.Gm
open Go.RowKit Go.Maps Go.Shelf Go.Proofs
set_option linter.unusedVariables false
set_option linter.unusedSimpArgs false
attribute [local go_sem] Oper.semAt_some
/-! ## grammar.all -/
theorem each_stops {frm : Int → Int} {S : Nat → Prop} {w : World} {v : Value} {op : Int} {regs imms : List Int} (h : EachV frm S w v op regs imms) (hS : ∀ b, S b → b < w.heap.size) (n : Nat) (hn : 1 ≤ n) (hl1 : regs.length ≤ 99) (hl2 : imms.length ≤ 99) :
    ∃ lb, v = .func (.func 58) #[] lb ∧ SeqStopsK Fence.wide n Try.prog 58 lb (fun x : In => #[ia x]) (KeepS S) (fun ys => ys = row1 (frm op) op regs (sndL (frm op) regs) (trdL (frm op) regs imms)) (fun pre => pre <+: row1 (frm op) op regs (sndL (frm op) regs) (trdL (frm op) regs imms)) 1000000000 w := by
  obtain ⟨bg, b2, b3, bo, bf, vr, vs, vt, rfl, k1, k2, k3, k4, k5, ⟨q1, q2, q3, q4, q5⟩, hr, h2, h3⟩ := h
  refine ⟨_, rfl, fun l J Jx W hW hJ hJx hY h0 => ?_⟩
  have hK : KeepS S w W := KeepS.below hS hW
  have hSW := hK.lt hS
  have rs {u : Value} {l : List Int} (h : ReadS S w u l) : ReadS S W u l := by
    obtain ⟨o, cap, e, h⟩ := h
    exact ⟨o, cap, e, fun hl => by obtain ⟨b, off, e2, hb, hc⟩ := h hl; exact ⟨b, off, e2, hb, fun j x hx => (hK.cell hb _).trans (hc j x hx)⟩⟩
  have l2 : (sndL (frm op) regs).length ≤ 100 := by unfold sndL; split <;> first | (simp; done) | omega
  have l3 : (trdL (frm op) regs imms).length ≤ 100 := by unfold trdL; split <;> omega
  exact each1_in Fence.wide n trivial rfl hn l bg b2 b3 bo bf S vr vs vt regs _ _ (frm op) op (by omega) l2 l3 J Jx (fun s X o hs => hJ s X _ none hs (World.grownBy_alloc X o none) (fun r e => by cases e)) hY W hSW ((hK.cell q1 1).trans k1) ((hK.cell q2 0).trans k2) ((hK.cell q3 0).trans k3) ((hK.cell q4 0).trans k4) ((hK.cell q5 0).trans k5) q1 q2 q3 q4 q5 (rs hr) (rs h2) (rs h3) h0
/-- A mark of a loop over an iterator. -/
def mark (D : Nat) : Deferred := { target := .collected D, args := #[] }
theorem leaves_marks {F : Fence} {n : Nat} {P : Program} {fn : Func} {tmps : Array Value} {R : Ending → World → Prop} (Q : World → Prop) : ∀ (Ds : List Nat) (W : World), Ds.Nodup → (∀ D ∈ Ds, W.heap[D]? = some (.deferred (some []))) →
    (∀ X D, Q X → D ∈ Ds → X.heap[D]? = some (.deferred (some [])) → Q (X.putObj D (.deferred none))) → Q W → (∀ X, Q X → LeavesIn F n P fn tmps R [] .returning X) → LeavesInM F n P fn tmps R (Ds.map mark) .returning W
  | [], W, _, _, _, h0, hend => hend W h0
  | D :: Ds, W, hnd, hD, hQ, h0, hend => by
    have hd := hD D (by simp)
    refine ⟨by simp, .inl ⟨D, W.putObj D (.deferred none), rfl, run_takeDeferred hd, ?_⟩⟩
    rw [List.nodup_cons] at hnd
    refine leaves_marks Q Ds _ hnd.2 (fun E hE => ?_) (fun X E hX hE => hQ X E hX (by simp [hE])) (hQ W D h0 (by simp) hd) hend
    have hne : E ≠ D := fun e => hnd.1 (e ▸ hE)
    exact (World.putObj_heap_other (fun e => hne e)).trans (hD E (by simp [hE]))
/-! ### all -/
def allL (frm : Int → Int) (rgt : In → Bool) (ops regs imms : List Int) : List In := (ops.flatMap fun op => row1 (frm op) op regs (sndL (frm op) regs) (trdL (frm op) regs imms)).filter rgt
/-- What the loop over the kinds keeps. -/
structure AllI (w : World) (n0 : Nat) (o0 o1 o2 : Option Addr) (m0 m1 m2 c0 c1 c2 : Nat) (len : Int) (Ds : List Nat) (l : List In) (W : World) : Prop where
  own : ∃ v, Boxed W (n0 + 2) 22 v ∧ OwnI W n0 v l
  res : Boxed W (n0 + 1) 22 (.slice none 0 0)
  g : W.heap[n0]? = some (.cells #[.slice o0 m0 c0, .slice o1 m1 c1, .slice o2 m2 c2, .int .i64 len] 31 (0, 0))
  ds : ∀ D ∈ Ds, W.heap[D]? = some (.deferred (some []))
  nd : Ds.Nodup
  dl : ∀ D ∈ Ds, n0 + 3 ≤ D
  bel : Below n0 w W
theorem own_optI {w : World} {base : Nat} {v : Value} {l : List In} (h : OwnI w base v l) : ∃ o cap, v = .slice o l.length cap ∧ (0 < l.length → ∃ g, o = some ⟨g, 0, none⟩) := by
  rcases h.2 with ⟨h1, h2⟩ | ⟨g, cap, cur, e, _⟩
  · exact ⟨none, 0, by rw [h1, h2], fun h => by omega⟩
  · exact ⟨_, cap, e, fun _ => ⟨g, rfl⟩⟩
theorem wpIn_appI {F : Fence} {nf : Nat} {w : World} {ops : Array Oper} {rest : List Oper} {o : Oper} {ac : Act} {Q : Exit → Act → World → Prop} (hg : o.guard = none) (s x : Operand) (hop : o.op = .call { callee := .builtin .append, args := #[s, x], argTypes := #[22, 22] })
    (base : Nat) (v : Value) (l : List In) (y : In) (hs : ac.eval s = v) (hown : OwnI w base v l) (cap : Nat) (hx : ac.eval x = .slice (some ⟨w.heap.size, 0, none⟩) 1 cap) (hl : l.length < 100000000) (hbase : base ≤ w.heap.size)
    (hK : ∀ v' w', OwnI w' base v' (l ++ [y]) → (w.alloc (.cells #[.int .i64 y.op, .int .i64 y.rd, .int .i64 y.a, .int .i64 y.b, .int .i64 y.m] 25)).grownBy w' v.ownBlock → (v'.ownBlock = v.ownBlock ∨ v'.ownBlock = some (w.alloc (.cells #[.int .i64 y.op, .int .i64 y.rd, .int .i64 y.a, .int .i64 y.b, .int .i64 y.m] 25)).heap.size) → wpListIn F nf Try.prog ops Q rest (ac.put o.dst v') w') :
    wpListIn F nf Try.prog ops Q (o :: rest) ac (w.alloc (.cells #[.int .i64 y.op, .int .i64 y.rd, .int .i64 y.a, .int .i64 y.b, .int .i64 y.m] 25)) := by
  obtain ⟨i0, hi, hz0, hz1, hz2⟩ := info_parts infoI
  refine wpListIn_append_own_at _ hg s x _ hop base _ i0 _ 5 40 Try.underlying22 hi hz0 hz1 hz2 rfl (by decide) v l.length (ivs l) hs (hown.alloc _) ⟨w.heap.size, 0, none⟩ 1 cap (iv y) hx rfl (cells_new w #[.int .i64 y.op, .int .i64 y.rd, .int .i64 y.a, .int .i64 y.b, .int .i64 y.m] _) (by simp [iv, Value.oneCell']) (by unfold maxLen; omega) (by omega) (by simp; omega) ?_
  intro v' w' h1 h2 h3 h4
  refine hK v' w' ?_ h2 h4
  show w'.ownsRow base _ 5 v' (l ++ [y]).length (ivs (l ++ [y]))
  rw [ivs_append, List.length_append]
  simpa [ivs] using h1
theorem ownI_succ {w : World} {base : Nat} {v : Value} {l : List In} {x : In} (h : OwnI w base v (l ++ [x])) : ∃ g cap, v = .slice (some ⟨g, 0, none⟩) (l.length + 1) cap := by
  rcases h.2 with ⟨h1, h2⟩ | ⟨g, cap, cur, e, _⟩
  · simp at h2
  · exact ⟨g, cap, by simpa using e⟩
theorem boxed_app {X w1 : World} {B n0 : Nat} {v : Value} {l : List In} {tmp : Obj} (hv : Boxed X B 22 v) (hrow : OwnI X n0 v l) (hgrow : (X.alloc tmp).grownBy w1 v.ownBlock) : Boxed w1 B 22 v :=
  (hv.alloc tmp).kept hgrow (hv.not_row (by decide) hrow)
theorem boxed_app2 {X w1 : World} {B n0 : Nat} {v u : Value} {l : List In} {tmp : Obj} (hv : Boxed X B 22 u) (hrow : OwnI X n0 v l) (hgrow : (X.alloc tmp).grownBy w1 v.ownBlock) : Boxed w1 B 22 u :=
  (hv.alloc tmp).kept hgrow (hv.not_row (by decide) hrow)
/-- What a round of the loop over the iterator keeps. -/
structure RI (w W : World) (n0 n1 n2 : Nat) (Ds : List Nat) (l : List In) (X : World) : Prop where
  own : ∃ v, Boxed X (n0 + 2) 22 v ∧ OwnI X n0 v l ∧ ∀ k, v.ownBlock = some k → ¬ SE n0 n1 n2 k ∧ k ≠ n0 ∧ k ∉ Ds
  res : Boxed X (n0 + 1) 22 (.slice none 0 0)
  keep : ∀ b, b = n0 ∨ b ∈ Ds → X.heap[b]? = W.heap[b]?
  bel : Below n0 w X
  sz : n2 ≤ X.heap.size
structure RX (w W : World) (n0 n2 : Nat) (Ds : List Nat) (l : List In) (X : World) : Prop where
  own : ∃ v, Boxed X (n0 + 1) 22 v ∧ OwnI X n0 v l
  keep : ∀ b, b = n0 ∨ b ∈ Ds → X.heap[b]? = W.heap[b]?
  bel : Below n0 w X
  sz : n2 ≤ X.heap.size
theorem own_rowN {X Y : World} {row : Option Nat} {base : Nat} {v : Value} {l : List In} (h : OwnI X base v l) (hg : X.grownBy Y row) (hr : ∀ r, row = some r → ∃ o : Obj, X.heap[r]? = some o ∧ o.isCells = false) : OwnI Y base v l := by
  refine World.ownsRow.kept h hg ?_
  by_cases e : v.ownBlock = none
  · exact .inl e
  · right
    intro e2
    rcases h.2 with ⟨rfl, _⟩ | ⟨g, cap, cur, rfl, hb, hgb, _⟩
    · exact e rfl
    · obtain ⟨o, ho, hc⟩ := hr g e2.symm
      rw [hgb] at ho
      cases ho
      cases hc
theorem RI.row {w W X Y : World} {n0 n1 n2 : Nat} {Ds : List Nat} {l : List In} {row : Option Nat} (h : RI w W n0 n1 n2 Ds l X) (hn : n0 + 3 ≤ n2) (hd : ∀ D ∈ Ds, D < n2) (hg : X.grownBy Y row) (hr : ∀ r, row = some r → n2 ≤ r ∧ ∃ o : Obj, X.heap[r]? = some o ∧ o.isCells = false) : RI w W n0 n1 n2 Ds l Y := by
  obtain ⟨v, b1, b2, b3⟩ := h.own
  have hne : ∀ b, b < n2 → some b ≠ row := fun b hb e => by have := (hr b e.symm).1; omega
  have hs := h.sz
  refine ⟨⟨v, b1.kept hg (hne _ (by omega)), own_rowN b2 hg (fun r e => (hr r e).2), b3⟩, h.res.kept hg (hne _ (by omega)), fun b hb => ?_, h.bel.grown hg (by omega) (fun k e => by have := (hr k e).1; omega), Nat.le_trans hs hg.size⟩
  have hlt : b < n2 := by rcases hb with rfl | hb; · omega
                          · exact hd b hb
  exact (hg.block b (by omega) (hne b hlt)).trans (h.keep b hb)
theorem RX.row {w W X Y : World} {n0 n2 : Nat} {Ds : List Nat} {l : List In} {row : Option Nat} (h : RX w W n0 n2 Ds l X) (hn : n0 + 3 ≤ n2) (hd : ∀ D ∈ Ds, D < n2) (hg : X.grownBy Y row) (hr : ∀ r, row = some r → n2 ≤ r ∧ ∃ o : Obj, X.heap[r]? = some o ∧ o.isCells = false) : RX w W n0 n2 Ds l Y := by
  have hW := h.sz
  obtain ⟨v, b1, b2⟩ := h.own
  have hne : ∀ b, b < n2 → some b ≠ row := fun b hb e => by have := (hr b e.symm).1; omega
  refine ⟨⟨v, b1.kept hg (hne _ (by omega)), own_rowN b2 hg (fun r e => (hr r e).2)⟩, fun b hb => ?_, h.bel.grown hg (by omega) (fun k e => by have := (hr k e).1; omega), Nat.le_trans hW hg.size⟩
  have hlt : b < n2 := by rcases hb with rfl | hb; · omega
                          · exact hd b hb
  exact (hg.block b (by omega) (hne b hlt)).trans (h.keep b hb)
theorem RI.below {w W X Y : World} {n0 n1 n2 : Nat} {Ds : List Nat} {l : List In} (h : RI w W n0 n1 n2 Ds l X) (hb : Below X.heap.size X Y) (hd : ∀ b, b = n0 ∨ b ∈ Ds → b < X.heap.size) (hn : n0 ≤ X.heap.size) : RI w W n0 n1 n2 Ds l Y := by
  obtain ⟨v, b1, b2, b3⟩ := h.own
  exact ⟨⟨v, (hb.block _ b1.lt).trans b1, b2.below hb, b3⟩, (hb.block _ h.res.lt).trans h.res, fun b hb' => (hb.block b (hd b hb')).trans (h.keep b hb'), h.bel.trans (hb.mono hn), Nat.le_trans h.sz hb.size⟩
theorem keepsOthers_below {X Y : World} (h : Below X.heap.size X Y) : KeepsOthers X Y := ⟨h.size, fun k o hk _ => (h.block k (Array.getElem?_eq_some_iff.1 hk).1).trans hk⟩
def BoxI (X : World) (b : Nat) (x : In) : Prop := X.heap[b]? = some (.cells #[.int .i64 x.op, .int .i64 x.rd, .int .i64 x.a, .int .i64 x.b, .int .i64 x.m] 25 (0, 0))
theorem BoxI.cells {X : World} {b : Nat} {x : In} (h : BoxI X b x) : X.cell? ⟨b, 0, none⟩ = some (.int .i64 x.op) ∧ X.cell? ⟨b, 1, none⟩ = some (.int .i64 x.rd) ∧ X.cell? ⟨b, 2, none⟩ = some (.int .i64 x.a) ∧ X.cell? ⟨b, 3, none⟩ = some (.int .i64 x.b) ∧ X.cell? ⟨b, 4, none⟩ = some (.int .i64 x.m) := by
  unfold BoxI at h
  simp [World.cell?, h]
theorem BoxI.lt {X : World} {b : Nat} {x : In} (h : BoxI X b x) : b < X.heap.size := (Array.getElem?_eq_some_iff.1 h).1
theorem RI.app {w W X w1 : World} {n0 n1 n2 : Nat} {Ds : List Nat} {l : List In} {x : In} {v v' : Value} {tmp : Obj} (h : RI w W n0 n1 n2 Ds l X) (hn : n0 + 3 ≤ n2) (hd' : ∀ D ∈ Ds, n0 + 3 ≤ D ∧ D < n2)
    (hv : Boxed X (n0 + 2) 22 v) (hrow : OwnI X n0 v l) (hnk : ∀ k, v.ownBlock = some k → ¬ SE n0 n1 n2 k ∧ k ≠ n0 ∧ k ∉ Ds) (hown' : OwnI w1 n0 v' (l ++ [x])) (hgrow : (X.alloc tmp).grownBy w1 v.ownBlock) (hat : v'.ownBlock = v.ownBlock ∨ v'.ownBlock = some (X.alloc tmp).heap.size) :
    RI w W n0 n1 n2 Ds (l ++ [x]) (w1.setCell ⟨n0 + 2, 0, none⟩ v') ∧ KeepsOthers X (w1.setCell ⟨n0 + 2, 0, none⟩ v') ∧ (n2 ≤ n1 ∨ n0 + 3 ≤ n1 → KeepS (SE n0 n1 n2) X (w1.setCell ⟨n0 + 2, 0, none⟩ v')) := by
  have hs := h.sz
  have hd : ∀ D ∈ Ds, D < n2 := fun D hD => (hd' D hD).2
  obtain ⟨q1, q2, q3, q4, q5⟩ := hv.appended (by decide) hrow (by omega) (by omega) hown' hgrow
  have hblk : ∀ b, b < X.heap.size → some b ≠ v.ownBlock → b ≠ n0 + 2 → (w1.setCell ⟨n0 + 2, 0, none⟩ v').heap[b]? = X.heap[b]? := fun b hb h1 h2 => by
    rw [Below.heap_setCell w1 ⟨n0 + 2, 0, none⟩ v' b h2, hgrow.block b (by simp; omega) h1, Below.heap_alloc X tmp b hb]
  have hsz : n2 ≤ (w1.setCell ⟨n0 + 2, 0, none⟩ v').heap.size := Nat.le_trans hs q4.size
  refine ⟨⟨⟨v', q2, q3, fun k hk => ?_⟩, ?_, fun b hb => ?_, h.bel.trans q5, hsz⟩, q4, fun hn1 b hb => ?_⟩
  · rcases hat with e | e
    · exact hnk k (e ▸ hk)
    · rw [e] at hk
      obtain rfl := Option.some.inj hk
      simp only [World.size_alloc]
      refine ⟨?_, by omega, fun hD => by have := hd _ hD; omega⟩
      unfold SE; omega
  · exact (hblk _ h.res.lt (h.res.not_row (by decide) hrow) (by omega)).trans h.res
  · have hlt : b < n2 := by rcases hb with rfl | hb; · omega
                            · exact hd b hb
    rw [hblk b (by omega) (fun e => ?_) (fun e => ?_)]
    · exact h.keep b hb
    · obtain ⟨_, k2, k3⟩ := hnk b e.symm
      rcases hb with hb | hb
      · exact k2 hb
      · exact k3 hb
    · rcases hb with hb | hb
      · omega
      · have := (hd' b hb).1; omega
  · have hlt : b < n2 := by unfold SE at hb; omega
    refine hblk b (by omega) (fun e => (hnk b e.symm).1 hb) (fun e => ?_)
    unfold SE at hb
    omega
theorem RI.toRX {w W X : World} {n0 n1 n2 : Nat} {Ds : List Nat} {l : List In} {v : Value} (h : RI w W n0 n1 n2 Ds l X) (hn : n0 + 3 ≤ n2) (hd : ∀ D ∈ Ds, n0 + 3 ≤ D) (hv : Boxed X (n0 + 2) 22 v) : RX w W n0 n2 Ds l (X.setCell ⟨n0 + 1, 0, none⟩ v) := by
  obtain ⟨u, b1, b2, b3⟩ := h.own
  have e : u = v := by
    have := (show X.heap[n0 + 2]? = _ from b1).symm.trans hv
    simpa using this
  subst e
  refine ⟨⟨u, h.res.set u, World.ownsRow.kept b2 (grownBy_setCell' X (n0 + 1) u) (.inr (h.res.not_row (by decide) b2).symm)⟩, fun b hb => ?_, below_sc h.bel (by dsimp only; omega), Nat.le_trans h.sz (KeepsOthers.setCell _ _ _).size⟩
  rw [Below.heap_setCell X ⟨n0 + 1, 0, none⟩ u b (by
    rcases hb with rfl | hb
    · dsimp only; omega
    · have := hd b hb; dsimp only; omega)]
  exact h.keep b hb
theorem filt_yes {rgt : In → Bool} {L pre : List In} {x : In} (h : rgt x = true) : L ++ (pre ++ [x]).filter rgt = (L ++ pre.filter rgt) ++ [x] := by
  rw [List.filter_append, List.append_assoc]; simp [h]
theorem filt_no {rgt : In → Bool} {L pre : List In} {x : In} (h : rgt x = false) : L ++ (pre ++ [x]).filter rgt = L ++ pre.filter rgt := by
  rw [List.filter_append]; simp [h]
theorem allL_succ (frm : Int → Int) (rgt : In → Bool) (ops regs imms : List Int) (i : Nat) (x : Int) (h : ops[i]? = some x) : allL frm rgt (ops.take (i + 1)) regs imms = allL frm rgt (ops.take i) regs imms ++ (row1 (frm x) x regs (sndL (frm x) regs) (trdL (frm x) regs imms)).filter rgt := by
  unfold allL
  rw [take_flat _ _ _ _ h, List.filter_append]
theorem allL_prefix (frm : Int → Int) (rgt : In → Bool) (ops regs imms : List Int) (i : Nat) (x : Int) (p : List In) (h : ops[i]? = some x) (hp : p <+: row1 (frm x) x regs (sndL (frm x) regs) (trdL (frm x) regs imms)) : allL frm rgt (ops.take i) regs imms ++ p.filter rgt <+: allL frm rgt ops regs imms := by
  unfold allL
  rw [← List.filter_append]
  exact (flat_prefix (fun op => row1 (frm op) op regs (sndL (frm op) regs) (trdL (frm op) regs imms)) ops i x p h hp).filter rgt
theorem take_of_prefix {l m : List In} (h : l <+: m) (n : Nat) (hl : l.length = n) : m.take n = l := by
  obtain ⟨t, rfl⟩ := h
  rw [← hl]; simp
structure RQ (w : World) (n0 : Nat) (v : Value) (l : List In) (X : World) : Prop where
  b : Boxed X (n0 + 1) 22 v
  own : OwnI X n0 v l
  bel : Below n0 w X
theorem RQ.put {w X : World} {n0 D : Nat} {v : Value} {l : List In} (h : RQ w n0 v l X) (hD : n0 + 3 ≤ D) (hd : X.heap[D]? = some (.deferred (some []))) (o : Obj) : RQ w n0 v l (X.putObj D o) := by
  have hlt := h.b.lt
  exact ⟨h.b.kept (grownBy_putObj' X D o) (fun e => by have := Option.some.inj e; omega), own_rowN h.own (grownBy_putObj' X D o) (fun r e => by cases e; exact ⟨_, hd, rfl⟩), h.bel.grown (grownBy_putObj' X D o) (by omega) (fun k e => by cases e; omega)⟩
theorem all_end {w X : World} {n0 n : Nat} {v : Value} {l : List In} {tmps : Array Value} (hn0 : n0 = w.heap.size) (hq : RQ w n0 v l X) (ht : tmps[2]? = some (.pointer (some ⟨n0 + 1, 0, none⟩))) {Ds : List Nat} (hnd : Ds.Nodup) (hD : ∀ D ∈ Ds, X.heap[D]? = some (.deferred (some []))) (hl : ∀ D ∈ Ds, n0 + 3 ≤ D) :
    LeavesInM Fence.wide n Try.prog Try.f35 tmps (fun e w' => ∃ v, e = .returned v ∧ OwnI w' w.heap.size v l ∧ Below w.heap.size w w') (Ds.map mark) .returning X := by
  refine leaves_marks (RQ w n0 v l) Ds X hnd hD (fun Y D hY hDm hd => hY.put (hl D hDm) hd _) hq (fun Y hY => ?_)
  have hc := hY.b.cell
  refine ⟨v, ?_, v, rfl, hn0 ▸ hY.own, hn0 ▸ hY.bel⟩
  simp [results, Try.f35, go_sem, hc, ht]
set_option maxRecDepth 100000 in
set_option maxHeartbeats 8000000 in
theorem all_calls (frm : Int → Int) (rgt : In → Bool) (hF : FormC frm) (hRt : RightC rgt) (o0 o1 o2 : Option Addr) (m0 m1 m2 c0 c1 c2 : Nat) (len : Int) (w : World) (ops regs imms : List Int)
    (ho : ReadN w.heap.size w (.slice o0 m0 c0) ops) (hr : ReadN w.heap.size w (.slice o1 m1 c1) regs) (hi : ReadN w.heap.size w (.slice o2 m2 c2) imms) (l0 : ops.length ≤ 99) (l1 : regs.length ≤ 99) (l2 : imms.length ≤ 99) :
    Calls Try.prog 35 #[.agg #[.slice o0 m0 c0, .slice o1 m1 c1, .slice o2 m2 c2, .int .i64 len]] w fun e w' => ∃ v, e = .returned v ∧ OwnI w' w.heap.size v ((allL frm rgt ops regs imms).take 4097) ∧ Below w.heap.size w w' := by
  have HFC := Lib.hid hF
  have HRC := Lib.hid hRt
  have HO := Lib.hid ho; have HR := Lib.hid hr; have HI := Lib.hid hi
  obtain ⟨o, cap, e, hoc⟩ := ho
  obtain ⟨rfl, rfl, rfl⟩ : o0 = o ∧ m0 = ops.length ∧ c0 = cap := by cases e; exact ⟨rfl, rfl, rfl⟩
  clear e
  have HOC := Lib.hid hoc
  clear hoc hF hRt hr hi
  refine (callsIn_wide (n := 9)).1 ?_
  refine callsIn_of_wp_marks Try.func35 rfl trivial ?_ rfl
  simp only [Try.ntmps35, List.size_toArray, List.length_cons, List.length_nil, Nat.reduceAdd, Nat.reduceSub, Array.replicate_succ, Array.replicate_zero, List.push_toArray, List.append_toArray, List.nil_append, List.cons_append]
  gi_wp2
  obtain ⟨n0, hn0⟩ : ∃ n0, n0 = w.heap.size := ⟨_, rfl⟩
  rw [← hn0]
  have HN0 := Lib.hid hn0
  refine wpIn_loop (fun a W => ∃ (i : Nat) (Ds : List Nat) (u5 u11 u12 u13 u14 u15 u16 u28 : Value), i ≤ ops.length ∧ (allL frm rgt (ops.take i) regs imms).length ≤ 4096 ∧ AllI w n0 o0 o1 o2 ops.length m1 m2 c0 c1 c2 len Ds (allL frm rgt (ops.take i) regs imms) W ∧
    a = { tmps := #[.agg #[.slice o0 ops.length c0, .slice o1 m1 c1, .slice o2 m2 c2, .int .i64 len], .pointer (some ⟨n0, 0, none⟩), .pointer (some ⟨n0 + 1, 0, none⟩), .pointer (some ⟨n0 + 1 + 1, 0, none⟩), undef, u5, undef, .pointer (some ⟨n0, 0, none⟩), .slice o0 ops.length c0, .int .i64 (ops.length : Int), .int .i64 (i : Int), u11, u12, u13, u14, u15, u16, undef, undef, undef, undef, undef, undef, undef, undef, undef, undef, undef, u28, undef], defers := Ds.map mark }) (fun a _ => ops.length - (intOf (a.tmps.getD 10 undef)).toNat) ?_ ?_
  · refine ⟨0, [], undef, undef, undef, undef, undef, undef, undef, undef, Nat.zero_le _, by simp [allL], ⟨⟨_, ?_, World.ownsRow_nil _ _ _ _⟩, ?_, ?_, by simp, List.nodup_nil, by simp, ?_⟩, rfl⟩
    · have := Boxed.new ((w.alloc (.cells #[.slice o0 ops.length c0, .slice o1 m1 c1, .slice o2 m2 c2, .int .i64 len] 31)).alloc (.cells #[.slice none 0 0] 22)) 22 (.slice none 0 0)
      simp only [World.size_alloc, ← hn0] at this
      exact this
    · have := (Boxed.new (w.alloc (.cells #[.slice o0 ops.length c0, .slice o1 m1 c1, .slice o2 m2 c2, .int .i64 len] 31)) 22 (.slice none 0 0)).alloc (.cells #[.slice none 0 0] 22)
      simp only [World.size_alloc, ← hn0] at this
      exact this
    · rw [hn0]
      exact (Below.heap_alloc _ _ _ (by simp; omega)).trans ((Below.heap_alloc _ _ _ (by simp)).trans (World.alloc_heap_new w _))
    · rw [hn0]
      exact (((Below.refl _ w).alloc (Nat.le_refl _) _).alloc (by simp) _).alloc (by simp; omega) _
  · rintro a W ⟨i, Ds, u5, u11, u12, u13, u14, u15, u16, u28, hi, hlen, hA, rfl⟩
    have HA := Lib.hid hA
    have HLEN := Lib.hid hlen
    clear hA hlen hn0
    by_cases hlt : i < ops.length
    · obtain ⟨x, hx⟩ : ∃ x, ops[i]? = some x := ⟨_, List.getElem?_eq_getElem hlt⟩
      obtain ⟨ob, oo, e, hob, hoc⟩ := HOC.out (fun h => by rw [h] at hlt; cases hlt)
      subst e
      have q1 := (HA.out.bel.cell (p := ⟨ob, oo + i, none⟩) (by rw [HN0.out]; exact hob)).trans (hoc i x hx)
      have HX := Lib.hid hx
      have g0 : W.cell? ⟨n0, 0, none⟩ = some (.slice (some ⟨ob, oo, none⟩) ops.length c0) := by simp [World.cell?, HA.out.g]
      have g1 : W.cell? ⟨n0, 1, none⟩ = some (.slice o1 m1 c1) := by simp [World.cell?, HA.out.g]
      have g2 : W.cell? ⟨n0, 2, none⟩ = some (.slice o2 m2 c2) := by simp [World.cell?, HA.out.g]
      have g3 : W.cell? ⟨n0, 3, none⟩ = some (.int .i64 len) := by simp [World.cell?, HA.out.g]
      have hBW : Below n0 w W := HA.out.bel
      have hsW : n0 + 3 ≤ W.heap.size := by obtain ⟨v, b1, _⟩ := HA.out.own; have := b1.lt; omega
      have HRW : Hid (ReadN n0 W (.slice o1 m1 c1) regs) := Lib.hid (by rw [HN0.out]; exact HR.out.below (HN0.out ▸ hBW))
      have HIW : Hid (ReadN n0 W (.slice o2 m2 c2) imms) := Lib.hid (by rw [HN0.out]; exact HI.out.below (HN0.out ▸ hBW))
      have HBW := Lib.hid hBW
      clear hx hoc hBW
      gi_wp2_with (gi_at_call 53; refine hold_ ?_)
      refine ⟨trivial, ?_⟩
      refine (callsIn_wide.2 (each_calls frm HFC.out _ _ _ _ _ _ _ _ _ len x W n0 (by omega) regs imms HRW.out HIW.out)).mono ?_
      rintro e w1 ⟨v, rfl, hE, hb⟩
      have hsz1 := hb.size
      obtain ⟨lb, rfl, hseq⟩ := each_stops hE (fun b hb' => by unfold SE at hb'; omega) 8 (by omega) l1 l2
      have HSEQ := Lib.hid hseq
      have HB1 := Lib.hid hb
      have hDl : ∀ D ∈ Ds, n0 + 3 ≤ D ∧ D < W.heap.size := fun D hD => ⟨HA.out.dl D hD, (Array.getElem?_eq_some_iff.1 (HA.out.ds D hD)).1⟩
      have HDL := Lib.hid hDl
      have hstart : RI w W n0 W.heap.size w1.heap.size Ds (allL frm rgt (ops.take i) regs imms) w1 := by
        obtain ⟨v, b1, b2⟩ := HA.out.own
        refine ⟨⟨v, (hb.block _ b1.lt).trans b1, b2.below hb, fun k hk => ?_⟩, (hb.block _ HA.out.res.lt).trans HA.out.res, fun b hb' => hb.block b ?_, HBW.out.trans (hb.mono (by omega)), Nat.le_refl _⟩
        · rcases b2.2 with ⟨rfl, _⟩ | ⟨g, cap, cur, rfl, hbase, hgb, _⟩
          · simp [Value.ownBlock] at hk
          · obtain rfl : g = k := by simpa [Value.ownBlock] using hk
            have hl := (Array.getElem?_eq_some_iff.1 hgb).1
            refine ⟨by unfold SE; omega, fun e => ?_, fun hD => ?_⟩
            · rw [e, HA.out.g] at hgb; simp at hgb
            · rw [HA.out.ds _ hD] at hgb; simp at hgb
        · rcases hb' with rfl | hb'
          · omega
          · exact (hDl b hb').2
      have HST := Lib.hid hstart
      clear hE hb hseq hDl hstart q1 g0 g1 g2 g3
      obtain ⟨N1, hN1⟩ : ∃ N1, N1 = W.heap.size := ⟨_, rfl⟩
      rw [← hN1] at hsW hsz1
      have HN1 := Lib.hid hN1
      clear hN1
      gi_wp2
      refine wpIn_rangeFunc_ownH rfl (by omega) (gf := 58) (lb := lb) rfl trivial (enters_of Try.func58 (by kernel_rfl) rfl) HSEQ.out (fun h k => h.trans k) (fun X l o o' hl hlo ho hw b hb => ?hkb) (Below.refl _ _) (fun _ => rfl)
        (fun pre X => RI w W n0 N1 w1.heap.size Ds (allL frm rgt (ops.take i) regs imms ++ pre.filter rgt) X ∧ (allL frm rgt (ops.take i) regs imms ++ pre.filter rgt).length ≤ 4096)
        (fun c pre X => c = .ret ∧ RX w W n0 w1.heap.size Ds (allL frm rgt (ops.take i) regs imms ++ pre.filter rgt) X ∧ (allL frm rgt (ops.take i) regs imms ++ pre.filter rgt).length = 4097)
        (fun s X Y row hs hg hr => ⟨hs.1.row (by omega) (fun D hD => by have := (HDL.out D hD).2; have := HN1.out; omega) hg hr, hs.2⟩)
        (fun c s X Y row hs hg hr => ⟨hs.1, hs.2.1.row (by omega) (fun D hD => by have := (HDL.out D hD).2; have := HN1.out; omega) hg hr, hs.2.2⟩)
        ⟨?hst, by simpa using HLEN.out⟩
        (fun x' a' X => ∃ Bx, n0 + 3 ≤ Bx ∧ BoxI X Bx x' ∧ a' = { tmps := #[.agg #[.slice (some ⟨ob, oo, none⟩) ops.length c0, .slice o1 m1 c1, .slice o2 m2 c2, .int .i64 len], .pointer (some ⟨n0, 0, none⟩), .pointer (some ⟨n0 + 1, 0, none⟩), .pointer (some ⟨n0 + 1 + 1, 0, none⟩), undef, .int .i64 x, .pointer (some ⟨Bx, 0, none⟩), .pointer (some ⟨n0, 0, none⟩), .slice (some ⟨ob, oo, none⟩) ops.length c0, .int .i64 (ops.length : Int), .int .i64 (i : Int), .bool true, .pointer (some ⟨ob, oo + i, none⟩), .int .i64 x, .agg #[.slice (some ⟨ob, oo, none⟩) ops.length c0, .slice o1 m1 c1, .slice o2 m2 c2, .int .i64 len], .int .i64 x, .func (.func 58) #[] lb, ia x', undef, undef, undef, undef, undef, undef, undef, undef, undef, undef, u28, undef], defers := [] })
        (fun x' a' _ X Y row hs hg hr => ?hax) ?assign ?body ?done ?stop
      case hkb =>
        have hlt' : b < w1.heap.size := by have := HN1.out; unfold SE at hb; omega
        exact World.putObj_heap_other (fun e => by omega)
      case hst =>
        have := HST.out
        rw [← HN1.out] at this
        simpa using this
      case hax =>
        obtain ⟨Bx, h1, h2, h3⟩ := hs
        refine ⟨Bx, h1, (hg.block Bx h2.lt (fun e => ?_)).trans h2, h3⟩
        obtain ⟨_, o, ho, hc⟩ := hr Bx e.symm
        unfold BoxI at h2
        rw [h2] at ho
        cases ho
        cases hc
      case assign =>
        rintro l pre x' X K ⟨hI, hl⟩ hK
        have HI' := Lib.hid hI
        have hIs := hI.sz
        clear hI
        gi_wp2
        refine hK _ _ ((KeepsOthers.alloc _ _).from _) ?_ ⟨?_, hl⟩ ⟨X.heap.size, by omega, World.alloc_heap_new X _, rfl⟩
        · exact (KeepS.refl _ X).alloc (fun b hb => by have := HN1.out; unfold SE at hb; omega) _
        · exact HI'.out.row (by omega) (fun D hD => by have := (HDL.out D hD).2; have := HN1.out; omega) (World.grownBy_alloc X _ none) (fun r e => by cases e)
      case body =>
        rintro l pre x' a' X hl ⟨r, hr⟩ ⟨hI, hlen⟩ ⟨Bx, hBx, bX, rfl⟩ hlt'
        obtain ⟨k0, k1, k2, k3, k4⟩ := bX.cells
        have HI' := Lib.hid hI
        have hIs := hI.sz
        have HLE := Lib.hid hlen
        clear hI hlen
        by_cases hx' : rgt x' = true
        · have HR' : Hid (∀ w : World, Calls Try.prog 29 #[ia x'] w fun e w' => e = .returned (.bool true) ∧ Below w.heap.size w w') := Lib.hid (fun w => by have := HRC.out x' w; rw [hx'] at this; exact this)
          have HX' := Lib.hid hx'
          clear hx'
          gi_wp2
          refine ⟨trivial, ?_⟩
          refine (CallsIn.inRound l (callsIn_wide.2 (HR'.out _))).mono ?_
          rintro e X1 ⟨rfl, hb⟩
          have hI1 := HI'.out.below hb (fun b hb' => by
            rcases hb' with rfl | hb'
            · omega
            · have := (HDL.out b hb').2; have := HN1.out; omega) (by omega)
          obtain ⟨v, b1, b2, b3⟩ := hI1.own
          have bX1 : BoxI X1 Bx x' := (hb.block _ bX.lt).trans bX
          obtain ⟨j0, j1, j2, j3, j4⟩ := bX1.cells
          obtain ⟨o, cap, hv, _⟩ := own_optI b2
          have hKB : KeepsOthers X X1 := keepsOthers_below hb
          have hKS : KeepS (SE n0 N1 w1.heap.size) X X1 := KeepS.below (fun b hb' => by have := HN1.out; unfold SE at hb'; omega) hb
          obtain ⟨N, hN⟩ : ∃ N, N = (allL frm rgt (ops.take i) regs imms ++ pre.filter rgt).length := ⟨_, rfl⟩
          rw [← hN] at hv
          subst hv
          have cv := b1.cell
          have hIs1 := hI1.sz
          have HN := Lib.hid hN
          have HI1 := Lib.hid hI1; have B1 := Lib.hid b1; have B2 := Lib.hid b2; have B3 := Lib.hid b3; have HKB := Lib.hid hKB; have HKS := Lib.hid hKS
          have hNl : N ≤ 4096 := by rw [hN]; exact HLE.out
          clear hI1 b1 b2 b3 hb k0 k1 k2 k3 k4 bX hN hKB hKS
          gi_wp2_with (gi_at_builtin; refine hold_ ?_)
          intro _
          refine wpIn_appI rfl (.tmp 20) (.tmp 22) rfl n0 (.slice o N cap) (allL frm rgt (ops.take i) regs imms ++ pre.filter rgt) x' rfl B2.out 1 rfl (by have := HLE.out; omega) (by omega) ?_
          intro v' w2 hown' hgrow hat
          obtain ⟨g', cap', hv'⟩ := ownI_succ hown'
          rw [← HN.out] at hv'
          subst hv'
          obtain ⟨r1, r2, r3⟩ := HI1.out.app (by omega) (fun D hD => by have := HDL.out D hD; have := HN1.out; omega) B1.out B2.out B3.out hown' hgrow hat
          have hv2 := boxed_app B1.out B2.out hgrow
          have hv3 := boxed_app2 HI1.out.res B2.out hgrow
          have HR1 := Lib.hid r1; have HR2 := Lib.hid r2; have HR3 := Lib.hid (r3 (by omega)); have HOW := Lib.hid hown'; have HV3 := Lib.hid hv3; have HV2 := Lib.hid hv2
          have cc := hv2.cell
          have cf := hv2.frozen
          have dc := hv3.cell
          have df := hv3.frozen
          clear r1 r2 r3 hgrow hat hown' hv2 hv3 cv j0 j1 j2 j3 j4 bX1
          by_cases hN4 : N = 4096
          · have hd : decide (((N : Nat) : Int) + 1 > 4096) = true := decide_eq_true (by omega)
            have HN4 := Lib.hid hN4
            have hN5 : 4096 ≤ N := by omega
            clear hN4
            gi_wp2
            refine ⟨(HKB.out.trans (HR2.out.trans (KeepsOthers.setCell _ _ _))).from _, rfl, ?_, ?_⟩
            · rw [filt_yes HX'.out]
              exact HR1.out.toRX (by omega) (fun D hD => (HDL.out D hD).1) (Boxed.set _ HV2.out)
            · rw [filt_yes HX'.out, List.length_append, ← HN.out, HN4.out]; rfl
          · have hN5 : N + 1 ≤ 4096 := by omega
            clear hN4
            gi_wp2
            refine ⟨(HKB.out.trans HR2.out).from _, ?_, ?_, ?_⟩
            · rw [← HN1.out]
              exact HKS.out.trans HR3.out
            · rw [filt_yes HX'.out]
              exact HR1.out
            · rw [filt_yes HX'.out, List.length_append, ← HN.out]; simpa using hN5
        · have hxf : rgt x' = false := by simpa using hx'
          have HR' : Hid (∀ w : World, Calls Try.prog 29 #[ia x'] w fun e w' => e = .returned (.bool false) ∧ Below w.heap.size w w') := Lib.hid (fun w => by have := HRC.out x' w; rw [hxf] at this; exact this)
          have HX' := Lib.hid hxf
          clear hx' hxf
          gi_wp2
          refine ⟨trivial, ?_⟩
          refine (CallsIn.inRound l (callsIn_wide.2 (HR'.out _))).mono ?_
          rintro e X1 ⟨rfl, hb⟩
          have hI1 := HI'.out.below hb (fun b hb' => by
            rcases hb' with rfl | hb'
            · omega
            · have := (HDL.out b hb').2; have := HN1.out; omega) (by omega)
          obtain ⟨v, b1, b2, b3⟩ := hI1.own
          obtain ⟨o, cap, hv, _⟩ := own_optI b2
          have hKB : KeepsOthers X X1 := keepsOthers_below hb
          have hKS : KeepS (SE n0 N1 w1.heap.size) X X1 := KeepS.below (fun b hb' => by have := HN1.out; unfold SE at hb'; omega) hb
          obtain ⟨N, hN⟩ : ∃ N, N = (allL frm rgt (ops.take i) regs imms ++ pre.filter rgt).length := ⟨_, rfl⟩
          rw [← hN] at hv
          subst hv
          have cv := b1.cell
          have HN := Lib.hid hN
          have HI1 := Lib.hid hI1; have HKB := Lib.hid hKB; have HKS := Lib.hid hKS
          have hNl : N ≤ 4096 := by rw [hN]; exact HLE.out
          clear hI1 b1 b2 b3 hb k0 k1 k2 k3 k4 bX hN hKB hKS
          gi_wp2
          refine ⟨HKB.out.from _, ?_, ?_, ?_⟩
          · rw [← HN1.out]; exact HKS.out
          · rw [filt_no HX'.out]; exact HI1.out
          · rw [filt_no HX'.out, ← HN.out]; exact hNl
      case done =>
        rintro D ys X hD rfl ⟨hI, hl⟩ hK
        have HI' := Lib.hid hI
        have HK := Lib.hid hK
        have HL := Lib.hid hl
        clear hI hK hl
        gi_wp2
        refine ⟨⟨i + 1, D :: Ds, _, _, _, _, _, _, _, _, hlt, ?_, ?_, rfl⟩, ?_⟩
        · rw [allL_succ frm rgt ops regs imms i x HX.out]; exact HL.out
        · rw [allL_succ frm rgt ops regs imms i x HX.out]
          obtain ⟨v, b1, b2, _⟩ := HI'.out.own
          have hDl := HDL.out
          have hN1 := HN1.out
          refine ⟨⟨v, b1, b2⟩, HI'.out.res, (HI'.out.keep n0 (.inl rfl)).trans HA.out.g, ?_, ?_, ?_, HI'.out.bel⟩
          · intro E hE
            rcases List.mem_cons.1 hE with rfl | hE
            · exact HK.out
            · exact (HI'.out.keep E (.inr hE)).trans (HA.out.ds E hE)
          · refine List.nodup_cons.2 ⟨fun hm => ?_, HA.out.nd⟩
            have := (hDl D hm).2
            omega
          · intro E hE
            rcases List.mem_cons.1 hE with rfl | hE
            · omega
            · exact HA.out.dl E hE
        · simp [intOf]; omega
      case stop =>
        rintro D c pre X hD hpre ⟨rfl, hX, hlen⟩ hK
        have HX2 := Lib.hid hX
        have HK := Lib.hid hK
        have HL := Lib.hid hlen
        clear hX hK hlen
        gi_wp2
        obtain ⟨v, b1, b2⟩ := HX2.out.own
        have hDl := HDL.out
        have hN1 := HN1.out
        have e := take_of_prefix (allL_prefix frm rgt ops regs imms i x pre HX.out hpre) 4097 HL.out
        rw [e]
        refine all_end (Ds := D :: Ds) HN0.out ⟨b1, b2, HX2.out.bel⟩ rfl ?_ ?_ ?_
        · refine List.nodup_cons.2 ⟨fun hm => ?_, HA.out.nd⟩
          have := (hDl D hm).2
          omega
        · intro E hE
          rcases List.mem_cons.1 hE with rfl | hE
          · exact HK.out
          · exact (HX2.out.keep E (.inr hE)).trans (HA.out.ds E hE)
        · intro E hE
          rcases List.mem_cons.1 hE with rfl | hE
          · omega
          · exact HA.out.dl E hE
    · obtain rfl : i = ops.length := by omega
      obtain ⟨v, b1, b2⟩ := HA.out.own
      obtain ⟨o, cap, hv, _⟩ := own_optI b2
      obtain ⟨N, hN⟩ : ∃ N, N = (allL frm rgt (ops.take ops.length) regs imms).length := ⟨_, rfl⟩
      rw [← hN] at hv
      subst hv
      have cv := b1.cell
      have dc := HA.out.res.cell
      have df := HA.out.res.frozen
      have hlt2 : n0 + 1 < W.heap.size := HA.out.res.lt
      have B1 := Lib.hid b1; have B2 := Lib.hid b2
      clear b1 b2 hN
      gi_wp2
      have hq : RQ w n0 (.slice o N cap) (allL frm rgt ops regs imms) (W.setCell ⟨n0 + 1, 0, none⟩ (.slice o N cap)) := by
        have hL := B2.out
        rw [List.take_length] at hL
        exact ⟨HA.out.res.set _, World.ownsRow.kept hL (grownBy_setCell' W (n0 + 1) _) (.inr (HA.out.res.not_row (by decide) hL).symm), below_sc HA.out.bel (by dsimp only; omega)⟩
      have e : (allL frm rgt ops regs imms).take 4097 = allL frm rgt ops regs imms := by
        have := HLEN.out
        rw [List.take_length] at this
        exact List.take_of_length_le (by omega)
      rw [e]
      refine all_end HN0.out hq rfl HA.out.nd (fun D hD => ?_) HA.out.dl
      rw [Below.heap_setCell W ⟨n0 + 1, 0, none⟩ _ D (by have := HA.out.dl D hD; dsimp only; omega)]
      exact HA.out.ds D hD
end Go.Proofs.Ytcjbdfhofpfooaa.Gm
