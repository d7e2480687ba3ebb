import Derived.Test.YtekenddkoahjgaaHBR
import Derived.WalkKit
import Derived.KernelRfl
import Derived.Below
import Derived.Outline
import Derived.LoopTactic
import Derived.Maps.Own
import Derived.Maps.OwnOps
import Derived.Maps.OwnSet
import Derived.Maps.Views
import Derived.Maps.AppendAt
import Derived.Laws.BitsLemmas
import Derived.Laws.BitsAllLaws
import Derived.Deep.LoopGhost
import Derived.Lib.Hide
import Derived.Deep.QuietTactic
import Derived.BigQuiet
import Derived.Deep.Draws
import Derived.Laws.StructEq
import Derived.Deep.Slices
import Derived.Deep.Fields
import Derived.ChangeSame
import Derived.Deep.CutBlock
import Derived.Deep.DeepCutAuto
import Derived.Deep.RegionHeld3
import Derived.StillTailTactics
import Derived.WalkSmall
import Derived.OwnWalk
import Derived.Laws.OwnMore
import Derived.Laws.BytesArg
import Derived.Laws.MakeOwn
import Derived.Laws.Tables
import Derived.Laws.Rows
import Derived.Laws.World
import Derived.Lib.SliceRun
/- Layer 8, walked: whetstoneref08.Next. -/
namespace Go.Proofs.Ytekenddkoahjgaa.Bl
open Go.RowKit Go.Maps Go.Proofs
set_option maxRecDepth 100000
set_option linter.unusedVariables false
set_option linter.unusedSimpArgs false
def nextl (t : List Nat) (L : List (Nat × Nat)) (j : Nat) : List Nat := (List.range j).filter fun i => decide ((L.getD i (0, 0)).1 ∈ t)
theorem nextl_succ (t : List Nat) (L : List (Nat × Nat)) (j : Nat) (x : Nat × Nat) (h : L[j]? = some x) : nextl t L (j + 1) = nextl t L j ++ (if x.1 ∈ t then [j] else []) := by
 unfold nextl
 rw [List.range_succ, List.filter_append]
 congr 1
 rw [List.filter_cons, List.getD_eq_getElem?_getD, h]
 simp only [Option.getD_some, List.filter_nil, decide_eq_true_eq]
theorem nextl_len (t : List Nat) (L : List (Nat × Nat)) (j : Nat) : (nextl t L j).length ≤ j := by
 have := List.length_filter_le (fun i => decide ((L.getD i (0, 0)).1 ∈ t)) (List.range j)
 rwa [List.length_range] at this
def RdBk (w : World) (A : Option Addr) (L : List (Nat × Nat)) : Prop := ∀ (i : Nat) (x : Nat × Nat), L[i]? = some x → ∃ ad, A = some ad ∧ w.cell? (ad.add (i * 2)) = some (.int .u32 (x.1 : Int)) ∧ w.cell? ⟨(ad.add (i * 2)).block, (ad.add (i * 2)).off + 1, none⟩ = some (.int .i64 (x.2 : Int))
theorem RdBk.below {w w' : World} {A : Option Addr} {L : List (Nat × Nat)} (h : RdBk w A L) (hb : Below w.heap.size w w') : RdBk w' A L := fun i x hx => by
 obtain ⟨ad, e, h0, h1⟩ := h i x hx
 exact ⟨ad, e, (hb.cell (cell_lt h0)).trans h0, (hb.cell (p := ⟨(ad.add (i * 2)).block, (ad.add (i * 2)).off + 1, none⟩) (cell_lt h1)).trans h1⟩
abbrev OwnN (w : World) (base : Nat) (v : Value) (l : List Nat) : Prop := w.ownsRow base 3 1 v l.length (l.map fun x : Nat => .int .i64 (x : Int))
theorem infoN6 : (Try.prog.info? 3).map (fun i => (i.zero, i.size, i.bytes)) = some (some (.int .i64 0), 1, 8) := by kernel_rfl
theorem wp_appN1 {w : World} {ops : Array Oper} {rest : List Oper} {o : Oper} {ac : Act} {Q : Exit → Act → World → Prop} (hg : o.guard = none) (s x : Operand) (hop : o.op = .call { callee := .builtin .append, args := #[s, x], argTypes := #[42, 42] })
  (base : Nat) (v : Value) (l : List Nat) (a : Nat) (hs : ac.eval s = v) (hown : OwnN w base v l) (cap : Nat) (hx : ac.eval x = .slice (some ⟨w.heap.size, 0, none⟩) 1 cap) (hl : l.length < 100000000) (hbase : base ≤ w.heap.size)
  (hK : ∀ v' w', OwnN w' base v' (l ++ [a]) → w.grownBy w' v.ownBlock → (v'.ownBlock = v.ownBlock ∨ v'.ownBlock = some (w.heap.size + 1)) → wpList Try.prog ops Q rest (ac.put o.dst v') w') :
  wpList Try.prog ops Q (o :: rest) ac (w.alloc (.cells #[.int .i64 (a : Int)] 3)) := by
 obtain ⟨i0, hi, hz0, hz1, hz2⟩ := info_parts infoN6
 refine wpList_append_own_at _ hg s x _ hop base _ i0 _ 1 8 Try.underlying42 hi hz0 hz1 hz2 rfl (by decide) v l.length (l.map fun x : Nat => .int .i64 (x : Int)) hs (hown.alloc _) ⟨w.heap.size, 0, none⟩ 1 cap [.int .i64 (a : Int)] hx rfl (cells_new w #[.int .i64 (a : Int)] _) (by simp [Value.oneCell']) (by unfold maxLen; omega) (by omega) (by simp; omega) ?_
 intro v' w' h1 h2 _ h4
 refine hK v' w' ?_ ((World.grownBy_alloc w _ _).trans h2) (by rw [World.size_alloc] at h4; exact h4)
 show w'.ownsRow base _ 1 v' (l ++ [a]).length ((l ++ [a]).map fun x : Nat => Value.int .i64 (x : Int))
 rw [List.map_append, List.length_append]
 exact h1
def adN (x : Nat × Nat) : Nat := (x.1 + 4 * (x.2 - 1)) % 4294967296
def nxtv (I : Nat → Ins × Int) (aft : Ins → Nat → List Nat) (L : List (Nat × Nat)) (k : Int) : List Nat × Bool :=
 if k < 0 then ([], false) else
 match L[k.toNat]? with
 | none => ([], false)
 | some x => if (I (adN x)).2 ≠ 0 then ([], false) else (nextl (aft (I (adN x)).1 (adN x)) L L.length, (I (adN x)).1.1 == 3)
def NextPost (R : List Nat × Bool) (w : World) (e : Ending) (w' : World) : Prop := ∃ v, e = .returned (.tuple #[v, .bool R.2]) ∧ OwnN w' w.heap.size v R.1 ∧ Below w.heap.size w w'
structure NSt (n0 : Nat) (w wx : World) (B E : Int) (A : Option Addr) (n cap : Nat) (S : Int) (v : Value) (l : List Nat) : Prop where
 box : wx.heap[w.heap.size]? = some (.cells #[.int .u32 B, .int .u32 E, .slice A n cap, .int .i64 S] 32 (0, 0))
 own : OwnN wx n0 v l
 bel : Below w.heap.size w wx
 lo : w.heap.size < n0
 hi : n0 ≤ wx.heap.size
theorem NSt.below {n0 : Nat} {w wx wy : World} {B E : Int} {A : Option Addr} {n cap : Nat} {S : Int} {v : Value} {l : List Nat} (h : NSt n0 w wx B E A n cap S v l) (hb : Below wx.heap.size wx wy) : NSt n0 w wy B E A n cap S v l :=
 ⟨(hb.block w.heap.size (by have := h.lo; have := h.hi; omega)).trans h.box, World.ownsRow.kept h.own (grownB' hb none) (by
  cases hv : v.ownBlock with
  | none => exact .inl rfl
  | some k => exact .inr (by simp)), h.bel.trans (hb.mono h.bel.size), h.lo, Nat.le_trans h.hi hb.size⟩
theorem NSt.app {n0 : Nat} {w wx wy : World} {B E : Int} {A : Option Addr} {n cap : Nat} {S : Int} {v v' : Value} {l l' : List Nat} (h : NSt n0 w wx B E A n cap S v l) (ho : OwnN wy n0 v' l') (hg : wx.grownBy wy v.ownBlock) : NSt n0 w wy B E A n cap S v' l' :=
 ⟨(hg.block w.heap.size (by have := h.lo; have := h.hi; omega) (fun e => by have := (World.ownsRow.lt h.own _ e.symm).1; have := h.lo; omega)).trans h.box, ho, h.bel.grown hg h.bel.size (fun k hk => by have := (World.ownsRow.lt h.own k hk).1; have := h.lo; omega), h.lo, Nat.le_trans h.hi hg.size⟩
theorem OwnN.low {w : World} {base base' : Nat} {v : Value} {l : List Nat} (h : OwnN w base v l) (hb : base' ≤ base) : OwnN w base' v l := by
 refine ⟨h.1, ?_⟩
 rcases h.2 with hn | ⟨g, cap, cur, e, hbb, rest⟩
 ·exact .inl hn
 ·exact .inr ⟨g, cap, cur, e, Nat.le_trans hb hbb, rest⟩
set_option maxHeartbeats 8000000 in
theorem rNext_calls (B : Nat) (E : Int) (A : Option Addr) (len cap : Nat) (S : Int) (I : Nat → Ins × Int) (aft : Ins → Nat → List Nat) (L : List (Nat × Nat)) (w : World) (AL : Option Addr) (M cL : Nat) (k : Int)
  (afterC : rAfterC aft) (atC : rAtC w.heap.size w B E A len cap S I) (ha2 : ∀ x a, (aft x a).length ≤ 2) (hr : RdBk w AL L) (hM : L.length = M) (hMb : M ≤ 1000) (hL : ∀ x ∈ L, x.1 < 4294967296 ∧ 1 ≤ x.2 ∧ x.2 ≤ 1000) :
  Calls Try.prog 22 #[imv B E A len cap S, .slice AL M cL, .int .i64 k] w (NextPost (nxtv I aft L k) w) := by
 have AF := Lib.hid afterC
 have AT := Lib.hid atC
 have AH := Lib.hid ha2
 have HR := Lib.hid hr
 have HM := Lib.hid hM
 have HL := Lib.hid hL
 obtain ⟨R, hR⟩ : ∃ R, nxtv I aft L k = R := ⟨_, rfl⟩
 rw [hR]
 have HRR := Lib.hid hR
 clear afterC atC ha2 hr hM hL hR
 go_enter Try.func22, Try.ntmps22
 obtain ⟨W0, hW0⟩ : ∃ W0, W0 = (w.alloc (.cells #[.int .u32 (B : Int), .int .u32 E, .slice A len cap, .int .i64 S] 32)).alloc (.cells #[] 3) := ⟨_, rfl⟩
 have HS0 : Hid (NSt (w.heap.size + 1) w W0 B E A len cap S (.slice (some ⟨w.heap.size + 1, 0, none⟩) 0 0) []) := Lib.hid (by
  rw [hW0]
  refine ⟨?_, ?_, ((Below.refl _ w).alloc (Nat.le_refl _) _).alloc (by simp) _, Nat.lt_succ_self _, by simp⟩
  ·rw [heap_old _ _ _ (by simp)]
   exact (MapKept.heap_alloc w _).1
  ·have := World.ownsRow_lit (base := w.heap.size + 1) (e := 3) (size := 1) (w.alloc (.cells #[.int .u32 (B : Int), .int .u32 E, .slice A len cap, .int .i64 S] 32)) #[] 0 (by simp) (by simp [maxLen]) rfl
   rw [World.size_alloc] at this
   exact this)
 by_cases hk0 : k < 0
 ·have hRe : R = ([], false) := by rw [← HRR.out]; unfold nxtv; rw [if_pos hk0]
  rw [hRe]
  have b1 : decide (k < 0) = true := decide_eq_true hk0
  clear hRe
  go_wp2
  refine bodyPost_ret (results_tmp2 rfl _ _ _) rfl ?_
  exact ⟨_, rfl, OwnN.low (by have := HS0.out.own; rw [hW0] at this; exact this) (Nat.le_succ _), by have := HS0.out.bel; rw [hW0] at this; exact this⟩
 obtain ⟨kk, rfl⟩ := Int.eq_ofNat_of_zero_le (show 0 ≤ k by omega)
 by_cases hkM : M ≤ kk
 ·have hRe : R = ([], false) := by
   rw [← HRR.out]; unfold nxtv
   rw [if_neg (by omega), Int.toNat_natCast, List.getElem?_eq_none (by rw [HM.out]; exact hkM)]
  rw [hRe]
  have b1 : ¬ ((kk : Int) < 0) := by omega
  have b2 : (kk : Int) ≥ (M : Int) := by omega
  clear hRe hk0
  go_wp2
  refine bodyPost_ret (results_tmp2 rfl _ _ _) rfl ?_
  exact ⟨_, rfl, OwnN.low (by have := HS0.out.own; rw [hW0] at this; exact this) (Nat.le_succ _), by have := HS0.out.bel; rw [hW0] at this; exact this⟩
 have hkl : kk < M := by omega
 obtain ⟨⟨x1, x2⟩, hx⟩ : ∃ x, L[kk]? = some x := ⟨_, List.getElem?_eq_getElem (by rw [HM.out]; exact hkl)⟩
 obtain ⟨hx1, hx2, hx3⟩ := HL.out _ (List.mem_of_getElem? hx)
 dsimp only at hx1 hx2 hx3
 obtain ⟨ad, rfl, hc0, hc1⟩ := (HR.out.below HS0.out.bel) kk _ hx
 dsimp only at hc0 hc1
 obtain ⟨a, ha⟩ : ∃ a, adN (x1, x2) = a := ⟨_, rfl⟩
 have ha' : (x1 + 4 * (x2 - 1)) % 4294967296 = a := ha
 have HAL := Lib.hid (show a < 4294967296 by omega)
 have e4 : IntKind.u32.wrap (4 * ((x2 : Int) - 1)) = 4 * ((x2 : Int) - 1) := by
  simp only [IntKind.wrap, IntKind.signed, IntKind.bits, Bool.false_and, Bool.false_eq_true, if_false]
  omega
 have e1 : IntKind.u32.wrap ((x1 : Int) + 4 * ((x2 : Int) - 1)) = (a : Int) := by
  simp only [IntKind.wrap, IntKind.signed, IntKind.bits, Bool.false_and, Bool.false_eq_true, if_false]
  omega
 have e2 : IntKind.i64.wrap ((x2 : Int) - 1) = (x2 : Int) - 1 := IntWalk.i64_in _ (by omega)
 have e3 : IntKind.i64.wrap (4 * ((x2 : Int) - 1)) = 4 * ((x2 : Int) - 1) := IntWalk.i64_in _ (by omega)
 have HRe : Hid (R = if (I a).2 ≠ 0 then ([], false) else (nextl (aft (I a).1 a) L L.length, (I a).1.1 == 3)) := Lib.hid (by
  rw [← HRR.out]; unfold nxtv
  rw [if_neg (by omega), Int.toNat_natCast, hx]
  dsimp only
  rw [ha])
 have hk1 : (0 : Int) ≤ (kk : Int) := by omega
 have hk2 : (kk : Int) < (M : Int) := by omega
 have b1 : ¬ ((kk : Int) < 0) := by omega
 have b2 : ¬ ((kk : Int) ≥ (M : Int)) := by omega
 have HE1 := Lib.hid e1
 have HE2 := Lib.hid e2
 have HE3 := Lib.hid e3
 have HE4 := Lib.hid e4
 clear hx ha ha' hkM hk0 e1 e2 e3 e4
 go_wp2
 try rw [← hW0]
 clear hW0
 have C0 := Lib.hid hc0
 have C1 := Lib.hid hc1
 clear hc0 hc1 b1 b2
 refine wp_region_held_drew (S := fun w' => w'.cell? (ad.add (kk * 2)) = some (.int .u32 (x1 : Int)) ∧ w'.cell? ⟨(ad.add (kk * 2)).block, (ad.add (kk * 2)).off + 1, none⟩ = some (.int .i64 (x2 : Int))) (by kernel_rfl) ⟨C0.out, C1.out⟩ (fun hHeld => ?_)
 refine rq (v := ?_) 0 23 rfl rfl (Or.inl ⟨by rfl, ?_⟩) hHeld ?_
 rotate_left
 ·(intro w hSw; obtain ⟨s0, s1⟩ := hSw; go_simp; try with_reducible rfl)
 simp only [Act.put, sa, s0', s1']
 refine rq (v := ?_) 1 24 rfl rfl (Or.inl ⟨by rfl, ?_⟩) hHeld ?_
 rotate_left
 ·(intro w hSw; obtain ⟨s0, s1⟩ := hSw; go_simp; try with_reducible rfl)
 simp only [Act.put, sa, s0', s1']
 refine rq (v := ?_) 2 25 rfl rfl (Or.inl ⟨by rfl, ?_⟩) hHeld ?_
 rotate_left
 ·(intro w hSw; obtain ⟨s0, s1⟩ := hSw; go_simp; try with_reducible rfl)
 simp only [Act.put, sa, s0', s1']
 refine rq (v := ?_) 3 26 rfl rfl (Or.inl ⟨by rfl, ?_⟩) hHeld ?_
 rotate_left
 ·(intro w hSw; obtain ⟨s0, s1⟩ := hSw; go_simp; try with_reducible rfl)
 simp only [Act.put, sa, s0', s1']
 refine rq (v := ?_) 4 27 rfl rfl (Or.inl ⟨by rfl, ?_⟩) hHeld ?_
 rotate_left
 ·(intro w hSw; obtain ⟨s0, s1⟩ := hSw; go_simp; try with_reducible rfl)
 simp only [Act.put, sa, s0', s1']
 refine rq (v := ?_) 5 28 rfl rfl (Or.inl ⟨by rfl, ?_⟩) hHeld ?_
 rotate_left
 ·(intro w hSw; obtain ⟨s0, s1⟩ := hSw; go_simp; try with_reducible rfl)
 simp only [Act.put, sa, s0', s1']
 refine rq (v := ?_) 6 29 rfl rfl (Or.inl ⟨by rfl, ?_⟩) hHeld ?_
 rotate_left
 ·(intro w hSw; obtain ⟨s0, s1⟩ := hSw; go_simp; try with_reducible rfl)
 simp only [Act.put, sa, s0', s1']
 refine rq (v := ?_) 7 30 rfl rfl (Or.inl ⟨by rfl, ?_⟩) hHeld ?_
 rotate_left
 ·(intro w hSw; obtain ⟨s0, s1⟩ := hSw; go_simp; try with_reducible rfl)
 simp only [Act.put, sa, s0', s1']
 refine rq (v := ?_) 8 31 rfl rfl (Or.inl ⟨by rfl, ?_⟩) hHeld ?_
 rotate_left
 ·(intro w hSw; obtain ⟨s0, s1⟩ := hSw; go_simp; try with_reducible rfl)
 simp only [Act.put, sa, s0', s1']
 refine rq (v := ?_) 9 32 rfl rfl (Or.inl ⟨by rfl, ?_⟩) hHeld ?_
 rotate_left
 ·(intro w hSw; obtain ⟨s0, s1⟩ := hSw; go_simp; try with_reducible rfl)
 simp only [Act.put, sa, s0', s1']
 have q2 := HE2.out
 refine rq (v := ?_) 10 33 rfl rfl (Or.inl ⟨by rfl, ?_⟩) hHeld ?_
 rotate_left
 ·(intro w hSw; clear hSw; go_simp; try with_reducible rfl)
 simp only [Act.put, sa, s0', s1']
 have q3 := HE3.out
 have q4 := HE4.out
 refine rq (v := ?_) 11 34 rfl rfl (Or.inl ⟨by rfl, ?_⟩) hHeld ?_
 rotate_left
 ·(intro w hSw; clear hSw; go_simp; try with_reducible rfl)
 simp only [Act.put, sa, s0', s1']
 refine rq (v := ?_) 12 35 rfl rfl (Or.inl ⟨by rfl, ?_⟩) hHeld ?_
 rotate_left
 ·(intro w hSw; clear hSw; go_simp; try with_reducible rfl)
 simp only [Act.put, sa, s0', s1']
 have q1 := HE1.out
 refine rq (v := ?_) 13 36 rfl rfl (Or.inl ⟨by rfl, ?_⟩) hHeld ?_
 rotate_left
 ·(intro w hSw; clear hSw; go_simp; try with_reducible rfl)
 simp only [Act.put, sa, s0', s1']
 refine rq (v := ?_) 14 9 rfl rfl (Or.inl ⟨by rfl, ?_⟩) hHeld ?_
 rotate_left
 ·(intro w hSw; clear hSw; go_simp; try with_reducible rfl)
 simp only [Act.put, sa, s0', s1']
 refine wpAnyH_done (by kernel_rfl) ?_ _
 clear q1 q2 q3 q4 hHeld
 have HS1 := Lib.hid (HS0.out.below (Below.refl W0.heap.size W0).drew)
 clear HS0 C0 C1 HE1 HE2 HE3 HE4
 generalize W0.drew = W1 at *
 obtain ⟨n0, hn0⟩ : ∃ n0, n0 = w.heap.size + 1 := ⟨_, rfl⟩
 rw [← hn0] at HS1 ⊢
 have HN0 := Lib.hid hn0
 clear hn0
 obtain ⟨f0, f1, f2, f3⟩ := cells4 HS1.out.box
 go_wp2_with (go_at_call 25; refine hold_ ?_)
 intro _
 refine (AT.out a W1 HAL.out HS1.out.bel).mono ?_
 rintro e w2 ⟨rfl, hb2⟩
 obtain ⟨⟨o1, o2, o3, o4, o5⟩, hx5⟩ : ∃ x, (I a).1 = x := ⟨_, rfl⟩
 obtain ⟨ev, hev⟩ : ∃ e, (I a).2 = e := ⟨_, rfl⟩
 rw [hx5, hev] at HRe ⊢
 have HS2 := Lib.hid (HS1.out.below hb2)
 clear hx5 hev hb2 HS1 f0 f1 f2 f3
 go_simp
 try rw [Oper.upon_value]
 go_upto_region 6 with fail
 obtain ⟨w3, hw3⟩ : ∃ w3, w3 = w2.alloc (.cells #[.int .i64 o1, .int .i64 o2, .int .i64 o3, .int .i64 o4, .int .i64 o5] 23) := ⟨_, rfl⟩
 obtain ⟨gb, hgb⟩ : ∃ gb, gb = w2.heap.size := ⟨_, rfl⟩
 have hb3 : Below w2.heap.size w2 w3 := by rw [hw3]; exact (Below.refl _ w2).alloc (Nat.le_refl _) _
 have HS3 := Lib.hid (HS2.out.below hb3)
 have KX := Lib.hid (show w3.heap[gb]? = some (.cells #[.int .i64 o1, .int .i64 o2, .int .i64 o3, .int .i64 o4, .int .i64 o5] 23 (0, 0)) by rw [hw3, hgb]; exact (MapKept.heap_alloc w2 _).1)
 have hn0g : n0 ≤ gb := by rw [hgb]; exact HS2.out.hi
 have HG := Lib.hid (show ∀ q, (Value.slice (some ⟨n0, 0, none⟩) 0 0).ownBlock = some q → q ≠ gb from fun q hq e => by
  have := (World.ownsRow.lt HS2.out.own q hq).2
  omega)
 try rw [← hw3]
 try rw [← hgb]
 clear hw3 hgb hb3 HS2
 by_cases he : ev = 0
 ·have b1 : (ev != 0) = false := by simp [he]
  have HRe' := Lib.hid (show R = (nextl (aft (o1, o2, o3, o4, o5) a) L L.length, o1 == 3) by have h := HRe.out; rwa [if_neg (by rw [he]; simp)] at h)
  obtain ⟨t, ht⟩ : ∃ t, aft (o1, o2, o3, o4, o5) a = t := ⟨_, rfl⟩
  have htl := AH.out (o1, o2, o3, o4, o5) a
  rw [ht] at HRe' htl
  have HT := Lib.hid ht
  clear he HRe ht
  go_wp2
  go_loopg [8, 12] M (fun q s8 s12 wx => ∃ (j : Nat), M ≤ q + j ∧ j ≤ M ∧ s12 = .int .i64 j ∧ Hid (NSt n0 w wx B E A len cap S s8 (nextl t L j)) ∧ Hid (wx.heap[gb]? = some (.cells #[.int .i64 o1, .int .i64 o2, .int .i64 o3, .int .i64 o4, .int .i64 o5] 23 (0, 0))) ∧ Hid (∀ q, s8.ownBlock = some q → q ≠ gb))
  case atStart => exact ⟨0, Nat.le_refl _, Nat.zero_le _, rfl, HS3, KX, HG⟩
  case round =>
   clear HS3 KX HG
   obtain ⟨j, hgk, hjM, rfl, HS, KX, HG⟩ := hrel
   by_cases hlt : j < M
   ·obtain ⟨⟨y1, y2⟩, hy⟩ : ∃ y, L[j]? = some y := ⟨_, List.getElem?_eq_getElem (by rw [HM.out]; exact hlt)⟩
    obtain ⟨ad', e, d0, d1⟩ := (HR.out.below HS.out.bel) j _ hy
    injection e with e
    subst e
    dsimp only at d0
    have CK := Lib.hid d0
    have GL := Lib.hid (cell_lt d0)
    have hgbl : gb < wr.heap.size := (Array.getElem?_eq_some_iff.1 KX.out).1
    have HY := Lib.hid hy
    have hj2 : (j : Int) < (M : Int) := by omega
    have hnl := nextl_len t L j
    have HNS := Lib.hid (nextl_succ t L j _ hy)
    clear hy d0 d1
    go_upto_region 11 with fail
    go_cut [60] (fun s60 wx => s60 = .bool (decide (y1 ∈ t)) ∧ Hid (NSt n0 w wx B E A len cap S u8 (nextl t L j)) ∧ Hid (wx.heap[gb]? = some (.cells #[.int .i64 o1, .int .i64 o2, .int .i64 o3, .int .i64 o4, .int .i64 o5] 23 (0, 0))))
    case first =>
     have kS : ∀ W, Below wr.heap.size wr W → W.heap[gb]? = some (.cells #[.int .i64 o1, .int .i64 o2, .int .i64 o3, .int .i64 o4, .int .i64 o5] 23 (0, 0)) ∧ W.cell? (ad.add (j * 2)) = some (.int .u32 (y1 : Int)) := fun W hW => ⟨(hW.block gb hgbl).trans KX.out, (hW.cell (p := ad.add (j * 2)) GL.out).trans CK.out⟩
     have KS := Lib.hid kS
     refine wp_region_held_drew (S := fun w' => w'.heap[gb]? = some (.cells #[.int .i64 o1, .int .i64 o2, .int .i64 o3, .int .i64 o4, .int .i64 o5] 23 (0, 0)) ∧ w'.cell? (ad.add (j * 2)) = some (.int .u32 (y1 : Int))) (by kernel_rfl) ⟨KX.out, CK.out⟩ (fun hHeld => ?_)
     clear kS
     refine rq (v := ?_) 0 52 rfl rfl (Or.inl ⟨by rfl, ?_⟩) hHeld ?_
     rotate_left
     ·(intro w hSw; obtain ⟨s0, s1⟩ := hSw; obtain ⟨t0, t1, t2, t3, t4⟩ := cells5 (x := (o1, o2, o3, o4, o5)) s0; try simp only at t0 t1 t2 t3 t4; go_simp; try with_reducible rfl)
     simp only [Act.put, sa, s0', s1']
     refine rq (v := ?_) 1 53 rfl rfl (Or.inl ⟨by rfl, ?_⟩) hHeld ?_
     rotate_left
     ·(intro w hSw; obtain ⟨s0, s1⟩ := hSw; obtain ⟨t0, t1, t2, t3, t4⟩ := cells5 (x := (o1, o2, o3, o4, o5)) s0; try simp only at t0 t1 t2 t3 t4; go_simp; try with_reducible rfl)
     simp only [Act.put, sa, s0', s1']
     refine rq (v := ?_) 3 55 rfl rfl (Or.inl ⟨by rfl, ?_⟩) hHeld ?_
     rotate_left
     ·(intro w hSw; obtain ⟨s0, s1⟩ := hSw; go_simp; try with_reducible rfl)
     simp only [Act.put, sa, s0', s1']
     refine rq (v := ?_) 4 56 rfl rfl (Or.inl ⟨by rfl, ?_⟩) hHeld ?_
     rotate_left
     ·(intro w hSw; obtain ⟨s0, s1⟩ := hSw; go_simp; try with_reducible rfl)
     simp only [Act.put, sa, s0', s1']
     refine rq (v := ?_) 5 57 rfl rfl (Or.inl ⟨by rfl, ?_⟩) hHeld ?_
     rotate_left
     ·(intro w hSw; obtain ⟨s0, s1⟩ := hSw; go_simp; try with_reducible rfl)
     simp only [Act.put, sa, s0', s1']
     refine rq (v := ?_) 6 58 rfl rfl (Or.inl ⟨by rfl, ?_⟩) hHeld ?_
     rotate_left
     ·(intro w hSw; obtain ⟨s0, s1⟩ := hSw; go_simp; try with_reducible rfl)
     simp only [Act.put, sa, s0', s1']
     refine rq (v := ?_) 7 59 rfl rfl (Or.inl ⟨by rfl, ?_⟩) hHeld ?_
     rotate_left
     ·(intro w hSw; obtain ⟨s0, s1⟩ := hSw; go_simp; try with_reducible rfl)
     simp only [Act.put, sa, s0', s1']
     refine wpAnyH_ready (rs := [2]) (by kernel_rfl) (by simp) ?_
     refine AllReadyH.cons (i := 2) rfl (fun K hK => ?_) AllReadyH.nil
     go_simp
     refine (AF.out o1 o2 o3 o4 o5 a wr.drew HAL.out).mono ?_
     rintro e w4 ⟨y, rfl, hoy, hb4⟩
     rw [HT.out] at hoy
     obtain ⟨oy, cy, rfl, -, hry⟩ := hoy.opt
     have HRY := Lib.hid hry
     have HB4 := Lib.hid ((Below.refl wr.heap.size wr).drew.trans hb4)
     obtain ⟨Kt, hKt⟩ : ∃ q, t.length = q := ⟨_, rfl⟩
     rw [hKt] at htl
     simp only [hKt]
     have HKt := Lib.hid hKt
     clear hKt hoy hry hb4
     go_wp2_with fail
     refine hK.out _ _ (KS.out _ HB4.out) (fun hHeld => ?_)
     clear hK K
     try simp only [Act.put, sa, s0', s1']
     refine wpAnyH_ready (rs := [8]) (by kernel_rfl) (by simp) ?_
     refine AllReadyH.cons (i := 8) rfl (fun K hK => ?_) AllReadyH.nil
     go_simp
     refine (has_calls oy cy Kt t y1 w4 HRY.out HKt.out (by omega)).mono ?_
     rintro e w5 ⟨rfl, rfl⟩
     go_wp2_with fail
     refine hK.out _ _ (KS.out _ HB4.out) (fun hHeld => ?_)
     clear hK K
     try simp only [Act.put, sa, s0', s1']
     refine wpAnyH_done (by kernel_rfl) ?_ _
     go_wp2
     go_meet
     case rel => exact ⟨rfl, Lib.hid (HS.out.below HB4.out), Lib.hid ((HB4.out.block gb hgbl).trans KX.out)⟩
    case rest =>
     obtain ⟨rfl, HS5, KX5⟩ := hcut
     by_cases hym : y1 ∈ t
     ·rw [show decide (y1 ∈ t) = true from decide_eq_true hym]
      have HYM := Lib.hid hym
      clear hym
      go_wp2_with (refine wp_appN1 rfl _ _ rfl n0 u8 (nextl t L j) j rfl HS5.out.own 1 rfl (by omega) HS5.out.hi ?_; intro v7 w7 ho7 hg7 hv7)
      have hv7' : ∀ q, v7.ownBlock = some q → q ≠ gb := by
       intro q hq e
       rcases hv7 with h | h
       ·exact HG.out q (by rw [← h]; exact hq) e
       ·have h1 := (Array.getElem?_eq_some_iff.1 KX5.out).1
        rw [h] at hq
        injection hq with hq
        omega
      go_roundg (gk - 1)
      case measure => omega
      case rel =>
       refine ⟨j + 1, by omega, by omega, by go_num, Lib.hid ?_, Lib.hid ?_, Lib.hid hv7'⟩
       ·rw [HNS.out, if_pos HYM.out]
        exact HS5.out.app ho7 hg7
       ·exact (hg7.block gb ((Array.getElem?_eq_some_iff.1 KX5.out).1) (fun e => HG.out gb e.symm rfl)).trans KX5.out
     ·rw [show decide (y1 ∈ t) = false from decide_eq_false hym]
      have HYM := Lib.hid hym
      clear hym
      go_wp2
      go_roundg (gk - 1)
      case measure => omega
      case rel =>
       refine ⟨j + 1, by omega, by omega, by go_num, Lib.hid ?_, KX5, HG⟩
       rw [HNS.out, if_neg HYM.out, List.append_nil]
       exact HS5.out
   ·obtain rfl : M = j := by omega
    have hnlt : ¬ ((M : Int) < (M : Int)) := by omega
    go_wp2
    refine wp_region_held_drew (S := fun w' => w'.heap[gb]? = some (.cells #[.int .i64 o1, .int .i64 o2, .int .i64 o3, .int .i64 o4, .int .i64 o5] 23 (0, 0))) (by kernel_rfl) KX.out (fun hHeld => ?_)
    refine rq (v := ?_) 0 65 rfl rfl (Or.inl ⟨by rfl, ?_⟩) hHeld ?_
    rotate_left
    ·(intro w hSw; obtain ⟨t0, t1, t2, t3, t4⟩ := cells5 (x := (o1, o2, o3, o4, o5)) hSw; try simp only at t0 t1 t2 t3 t4; go_simp; try with_reducible rfl)
    simp only [Act.put, sa, s0', s1']
    refine rq (v := ?_) 1 66 rfl rfl (Or.inl ⟨by rfl, ?_⟩) hHeld ?_
    rotate_left
    ·(intro w hSw; obtain ⟨t0, t1, t2, t3, t4⟩ := cells5 (x := (o1, o2, o3, o4, o5)) hSw; try simp only at t0 t1 t2 t3 t4; go_simp; try with_reducible rfl)
    simp only [Act.put, sa, s0', s1']
    refine rq (v := ?_) 2 67 rfl rfl (Or.inl ⟨by rfl, ?_⟩) hHeld ?_
    rotate_left
    ·(intro w hSw; obtain ⟨t0, t1, t2, t3, t4⟩ := cells5 (x := (o1, o2, o3, o4, o5)) hSw; try simp only at t0 t1 t2 t3 t4; go_simp; try with_reducible rfl)
    simp only [Act.put, sa, s0', s1']
    refine rq (v := ?_) 3 68 rfl rfl (Or.inl ⟨by rfl, ?_⟩) hHeld ?_
    rotate_left
    ·(intro w hSw; obtain ⟨t0, t1, t2, t3, t4⟩ := cells5 (x := (o1, o2, o3, o4, o5)) hSw; try simp only at t0 t1 t2 t3 t4; go_simp; try with_reducible rfl)
    simp only [Act.put, sa, s0', s1']
    refine rq (v := ?_) 4 6 rfl rfl (Or.inl ⟨by rfl, ?_⟩) hHeld ?_
    rotate_left
    ·(intro w hSw; obtain ⟨t0, t1, t2, t3, t4⟩ := cells5 (x := (o1, o2, o3, o4, o5)) hSw; try simp only at t0 t1 t2 t3 t4; go_simp; try with_reducible rfl)
    simp only [Act.put, sa, s0', s1']
    refine rq (v := ?_) 5 7 rfl rfl (Or.inl ⟨by rfl, ?_⟩) hHeld ?_
    rotate_left
    ·(intro w hSw; obtain ⟨t0, t1, t2, t3, t4⟩ := cells5 (x := (o1, o2, o3, o4, o5)) hSw; try simp only at t0 t1 t2 t3 t4; go_simp; try with_reducible rfl)
    simp only [Act.put, sa, s0', s1']
    refine wpAnyH_done (by kernel_rfl) ?_ _
    go_wp2
    refine bodyPost_ret (results_tmp2 rfl _ _ _) rfl ?_
    rw [HRe'.out]
    have hSd := HS.out.below (Below.refl wr.heap.size wr).drew
    refine ⟨_, rfl, ?_, hSd.bel⟩
    rw [HM.out]
    exact OwnN.low hSd.own (by have := hSd.lo; omega)
 ·have b1 : (ev != 0) = true := by simp [he]
  have HRe' := Lib.hid (show R = ([], false) by have h := HRe.out; rwa [if_pos he] at h)
  clear he HRe
  go_wp2
  refine bodyPost_ret (results_tmp2 rfl _ _ _) rfl ?_
  rw [HRe'.out]
  exact ⟨_, rfl, OwnN.low HS3.out.own (by have := HS3.out.lo; omega), HS3.out.bel⟩
end Go.Proofs.Ytekenddkoahjgaa.Bl
