import Derived.Test.YtononmcodecmaaaJKA
import Derived.Test.YtononmcodecmaaaJLA
import Derived.Test.YtononmcodecmaaaJQx
import Derived.WalkKit
import Derived.KernelRfl
import Derived.Below
import Derived.Outline
import Derived.LoopTactic
import Derived.Laws.BitsLemmas
import Derived.Laws.BitsAllLaws
import Derived.Deep.LoopGhost
import Derived.Lib.Hide
import Derived.Deep.QuietTactic
import Derived.BigQuiet
import Derived.Deep.Draws
import Derived.Laws.StructEq
import Derived.Deep.Slices
import Derived.Deep.Fields
import Derived.ChangeSame
import Derived.Deep.CutBlock
import Derived.Deep.DeepCutAuto
import Derived.Deep.RegionHeld3
import Derived.StillTailTactics
import Derived.WalkSmall
import Derived.OwnWalk
import Derived.Laws.OwnMore
import Derived.Laws.BytesArg
import Derived.Laws.MakeOwn
import Derived.Laws.Tables
import Derived.Laws.Rows
import Derived.Laws.World
section
/- Layer 4: the machine (part KB). -/
namespace Go.Proofs.Ytononmcodecmaaa.Cp
open Go.RowKit Go.Maps Go.Proofs Go.Proofs.YtononmcodecmaaaW Go.Proofs.YtononmcodecmaaaW.PrintWords
set_option maxRecDepth 100000
set_option linter.unusedVariables false
set_option linter.unusedSimpArgs false
attribute [local go_sem] cv_set cv_at cv_size
structure Wc (c : List Int) : Prop where
 len : c.length = 33
 rng : ∀ i, 0 ≤ reg c i ∧ reg c i < 4294967296
abbrev ia (op rd a b m : Int) : Value := .agg #[.int .i64 op, .int .i64 rd, .int .i64 a, .int .i64 b, .int .i64 m]
def dov (op u v : Int) : Int × Int := Q.doW op u.toNat v.toNat
theorem Do_c (op u v : Int) (hu : 0 ≤ u ∧ u < 4294967296) (hv : 0 ≤ v ∧ v < 4294967296) (w : World) : Calls Try.prog 53 #[.int .i64 op, .int .u32 u, .int .u32 v] w fun e w' => e = .returned (.tuple #[.int .u32 (dov op u v).1, .int .i64 (dov op u v).2]) ∧ Below w.heap.size w w' := by
 have h := Q.word_Do.calls 9 op u v (dov op u v).1 (dov op u v).2 w (by
  have := Q.Do_eq op u.toNat v.toNat (by omega) (by omega) 9 (by omega)
  rw [Int.toNat_of_nonneg hu.1, Int.toNat_of_nonneg hv.1] at this
  exact this)
 exact h.mono fun _ _ h => ⟨h.1, h.2.below⟩
theorem rPlain_none (a : Int) (h : ¬ (18 ≤ a ∧ a ≤ 26)) : Q.whetstoneref02_Plain.f 200 a = some (0, false) := by
 have e (j : Nat) (hj : j < 9) : rd ([18, 19, 20, 21, 22, 23, 24, 25, 26] : List Int) (j : Int) ≠ a := by
  have : ∀ j : Fin 9, 18 ≤ rd ([18, 19, 20, 21, 22, 23, 24, 25, 26] : List Int) (j.val : Int) ∧ rd ([18, 19, 20, 21, 22, 23, 24, 25, 26] : List Int) (j.val : Int) ≤ 26 := by decide
  have := this ⟨j, hj⟩
  simp only at this
  omega
 have go : ∀ d k j : Nat, j + d = 9 → d < k → Q.whetstoneref02_Plain.l0 k a ([18, 19, 20, 21, 22, 23, 24, 25, 26] : List Int) ([27, 30, 31, 32, 35, 36, 29, 33, 34] : List Int) (j : Int) = some (0, false) := by
  intro d
  induction d with
  | zero =>
   intro k j hj hk
   obtain ⟨k, rfl⟩ : ∃ m, k = m + 1 := ⟨k - 1, by omega⟩
   obtain rfl : j = 9 := by omega
   simp only [Q.whetstoneref02_Plain.l0]
   rfl
  | succ d ih =>
   intro k j hj hk
   obtain ⟨k, rfl⟩ : ∃ m, k = m + 1 := ⟨k - 1, by omega⟩
   simp only [Q.whetstoneref02_Plain.l0]
   rw [if_pos (by simp; omega), if_pos (by omega), if_neg (e j (by omega)), show wrap64 ((j : Int) + 1) = ((j + 1 : Nat) : Int) by unfold wrap64; omega]
   exact ih k (j + 1) (by omega) (by omega)
 exact go 9 200 0 (by omega) (by omega)
theorem Plain_none (a : Int) (h : ¬ (18 ≤ a ∧ a ≤ 26)) : Q.inst_Plain.f a = some (0, false) := by
 unfold Q.inst_Plain.f
 rw [if_neg (by omega), if_neg (by omega), if_neg (by omega), if_neg (by omega), if_neg (by omega), if_neg (by omega), if_neg (by omega), if_neg (by omega), if_neg (by omega)]
def plo (op : Int) : Int × Bool := (Q.inst_Plain.f op).getD (0, false)
theorem plo_in : ∀ n : Fin 9, Q.inst_Plain.f (18 + (n.val : Int)) = some (plo (18 + (n.val : Int))) ∧ Q.whetstoneref02_Plain.f 200 (18 + (n.val : Int)) = some (plo (18 + (n.val : Int))) := by decide +kernel
theorem plo_eq (op : Int) : Q.inst_Plain.f op = some (plo op) ∧ Q.whetstoneref02_Plain.f 200 op = some (plo op) := by
 by_cases h : 18 ≤ op ∧ op ≤ 26
 ·have e : op = 18 + (((op - 18).toNat : Nat) : Int) := by omega
  have := plo_in ⟨(op - 18).toNat, by omega⟩
  rw [e]
  exact this
 ·have e1 := Plain_none op h
  have e2 := rPlain_none op h
  have e3 : plo op = (0, false) := by unfold plo; rw [e1]; rfl
  rw [e3]
  exact ⟨e1, e2⟩
theorem Plain_c (op : Int) (w : World) : Calls Try.prog 52 #[.int .i64 op] w fun e w' => e = .returned (.tuple #[.int .i64 (plo op).1, .bool (plo op).2]) ∧ Below w.heap.size w w' :=
 (Q.inst_Plain.calls op (plo op).1 (plo op).2 w (plo_eq op).1).mono fun _ _ h => ⟨h.1, h.2.below⟩
theorem Right_c (op rd a b m : Int) (w : World) : Calls Try.prog 21 #[ia op rd a b m] w fun e w' => e = .returned (.bool (Q.rightv op rd a b m)) ∧ Below w.heap.size w w' :=
 Q.inst_Right.calls 4 op rd a b m _ w (Q.Right_eq op rd a b m 4 (Nat.le_refl _))
theorem mod_rng (v : Int) : 0 ≤ v % 4294967296 ∧ v % 4294967296 < 4294967296 := ⟨Int.emod_nonneg _ (by decide), Int.emod_lt_of_pos _ (by decide)⟩
theorem divided_rng (op : Int) (a b : Nat) (hb : b < 4294967296) (ha : a < 4294967296) (hop : op = 41 ∨ op = 42 ∨ op = 43 ∨ op = 44) (r : Int) (h : Q.word_divided.f 5 op (a : Int) (b : Int) = some r) : 0 ≤ r ∧ r < 4294967296 := by
 by_cases h0 : b = 0
 ·subst h0
  have e := Q.div_zero op a hop 5 (by omega)
  rw [show ((0 : Nat) : Int) = 0 from rfl, e] at h
  injection h with h
  subst h
  split <;> omega
 ·rcases hop with rfl | rfl | rfl | rfl
  ·rw [Q.div_signed a b ha hb h0 5 (by omega)] at h; injection h with h; subst h; exact mod_rng _
  ·rw [Q.div_unsigned a b h0 5 (by omega)] at h; injection h with h; subst h; exact mod_rng _
  ·rw [Q.rem_signed a b ha hb h0 5 (by omega)] at h; injection h with h; subst h; exact mod_rng _
  ·rw [Q.rem_unsigned a b h0 5 (by omega)] at h
   injection h with h
   subst h
   have := Nat.mod_lt a (show 0 < b by omega)
   omega
theorem doW_rng (op : Int) (a b : Nat) (ha : a < 4294967296) (hb : b < 4294967296) : 0 ≤ (Q.doW op a b).1 ∧ (Q.doW op a b).1 < 4294967296 := by
 unfold Q.doW
 by_cases h0 : op = 27
 ·rw [if_pos h0]; exact mod_rng _
 rw [if_neg h0]
 by_cases h1 : op = 28
 ·rw [if_pos h1]; exact mod_rng _
 rw [if_neg h1]
 by_cases h2 : op = 36
 ·rw [if_pos h2]; have := @Nat.and_le_left a b; simp only; omega
 rw [if_neg h2]
 by_cases h3 : op = 35
 ·rw [if_pos h3]; have := Nat.or_lt_two_pow (n := 32) (x := a) (y := b) (by omega) (by omega); simp only; omega
 rw [if_neg h3]
 by_cases h4 : op = 32
 ·rw [if_pos h4]; have := Nat.xor_lt_two_pow (n := 32) (x := a) (y := b) (by omega) (by omega); simp only; omega
 rw [if_neg h4]
 by_cases h5 : op = 29
 ·rw [if_pos h5]; have := Nat.mod_lt (a * 2 ^ (b % 32)) (show 0 < 4294967296 by omega); generalize a * 2 ^ (b % 32) % 4294967296 = z at *; simp only; omega
 rw [if_neg h5]
 by_cases h6 : op = 33
 ·rw [if_pos h6]; have := Nat.div_le_self a (2 ^ (b % 32)); generalize a / 2 ^ (b % 32) = z at *; simp only; omega
 rw [if_neg h6]
 by_cases h7 : op = 34
 ·rw [if_pos h7]; have := Q.sra_lt a (b % 32) ha (Nat.mod_lt _ (by omega)); simp only; omega
 rw [if_neg h7]
 by_cases h8 : op = 30
 ·rw [if_pos h8]; show 0 ≤ (if wrap32 (a : Int) < wrap32 (b : Int) then (1 : Int) else 0) ∧ (if wrap32 (a : Int) < wrap32 (b : Int) then (1 : Int) else 0) < 4294967296; by_cases hx : wrap32 (a : Int) < wrap32 (b : Int) <;> simp [hx]
 rw [if_neg h8]
 by_cases h9 : op = 31
 ·rw [if_pos h9]; show 0 ≤ (if a < b then (1 : Int) else 0) ∧ (if a < b then (1 : Int) else 0) < 4294967296; by_cases hx : a < b <;> simp [hx]
 rw [if_neg h9]
 by_cases h10 : op = 37
 ·rw [if_pos h10]; exact mod_rng _
 rw [if_neg h10]
 by_cases hh : op = 38 ∨ op = 39 ∨ op = 40
 ·rw [if_pos hh]
  obtain ⟨r, hr⟩ := Q.high_some op (a : Int) (b : Int)
  rw [hr, Option.getD_some]
  unfold Q.word_high.f at hr
  by_cases e1 : op = 40
  ·rw [if_pos e1] at hr; injection hr with hr; subst hr; exact mod_rng _
  rw [if_neg e1] at hr
  by_cases e2 : op = 38
  ·rw [if_pos e2] at hr; injection hr with hr; subst hr; exact mod_rng _
  rw [if_neg e2] at hr
  by_cases e3 : op = 39
  ·rw [if_pos e3] at hr; injection hr with hr; subst hr; exact mod_rng _
  rw [if_neg e3] at hr
  injection hr with hr; subst hr; exact mod_rng _
 rw [if_neg hh]
 by_cases hop : op = 41 ∨ op = 42 ∨ op = 43 ∨ op = 44
 ·rw [if_pos hop]
  obtain ⟨r, hr⟩ := Q.divided_some op a b hb ha hop
  have := hr 5 (by omega)
  rw [this, Option.getD_some]
  exact divided_rng op a b hb ha hop r this
 ·rw [if_neg hop]; exact ⟨Int.le_refl _, by decide⟩
theorem dov_rng (op u v : Int) (hu : 0 ≤ u ∧ u < 4294967296) (hv : 0 ≤ v ∧ v < 4294967296) : 0 ≤ (dov op u v).1 ∧ (dov op u v).1 < 4294967296 :=
 doW_rng op u.toNat v.toNat (by omega) (by omega)
theorem plo_vals : ∀ n : Fin 9, (plo (18 + (n.val : Int))).2 = true ∧ (plo (18 + (n.val : Int))).1 ∈ [27, 30, 31, 32, 35, 36, 29, 33, 34] := by decide +kernel
end Go.Proofs.Ytononmcodecmaaa.Cp
end
section
/- Layer 4: the machine (part KC). -/
namespace Go.Proofs.Ytononmcodecmaaa.Cp
open Go.RowKit Go.Maps Go.Proofs Go.Proofs.YtononmcodecmaaaW Go.Proofs.YtononmcodecmaaaW.PrintWords
set_option maxRecDepth 100000
set_option linter.unusedVariables false
set_option linter.unusedSimpArgs false
attribute [local go_sem] cv_set cv_at cv_size
theorem keep2 {w : World} {A B : Obj} {w2 : World} (h : Below ((w.alloc A).alloc B).heap.size ((w.alloc A).alloc B) w2) : w2.heap[w.heap.size]? = some A ∧ w2.heap[w.heap.size + 1]? = some B ∧ w.heap.size + 2 ≤ w2.heap.size ∧ Below w.heap.size w w2 := by
 refine ⟨?_, ?_, ?_, ?_⟩
 ·rw [h.block _ (by simp; omega)]; exact heap_alloc2_old _ _ _
 ·rw [h.block _ (by simp)]; exact heap_alloc2_new _ _ _
 ·have := h.size; simp at this; omega
 ·exact (((Below.refl _ w).alloc (Nat.le_refl _) _).alloc (by simp) _).trans (h.mono (by simp; omega))
theorem keep3 {w : World} {A B C : Obj} {w2 : World} (h : Below (((w.alloc A).alloc B).alloc C).heap.size (((w.alloc A).alloc B).alloc C) w2) : w2.heap[w.heap.size]? = some A ∧ w2.heap[w.heap.size + 1]? = some B ∧ w2.heap[w.heap.size + 2]? = some C ∧ w.heap.size + 3 ≤ w2.heap.size ∧ Below w.heap.size w w2 := by
 refine ⟨?_, ?_, ?_, ?_, ?_⟩
 ·rw [h.block _ (by simp; omega)]; exact heap3_0 _ _ _ _
 ·rw [h.block _ (by simp)]; exact heap3_1 _ _ _ _
 ·rw [h.block _ (by simp)]; exact heap3_2 _ _ _ _
 ·have := h.size; simp at this; omega
 ·exact ((((Below.refl _ w).alloc (Nat.le_refl _) _).alloc (by simp) _).alloc (by simp; omega) _).trans (h.mono (by simp; omega))
theorem hold_ {p : Prop} (h : True → p) : p := h trivial
def upv (m : Int) : Int := m % 4294967296 * 4096 % 4294967296
def plainv (c : List Int) (op : Int) (a b : Nat) (m : Int) : Int × Bool :=
 if op = 0 then (upv m, true) else if op = 1 then ((reg c 32 + upv m) % 4294967296, true)
 else if (plo op).2 = true then ((dov (plo op).1 (reg c a) (m % 4294967296)).1, true)
 else ((dov op (reg c a) (reg c b)).1, decide ((dov op (reg c a) (reg c b)).2 = 0))
theorem rh_take {P : Program} {ops : Array Oper} {Q : Exit → Act → World → Prop} {md : Region.Mode} {S : World → Prop} {i k : Nat} {oi : Oper} {v : Value} {fuel : Nat} {listed : Array Bool} {a : Act} {w : World} (hi : ops[i]? = some oi) (hk : oi.dst = some k)
  (hs : Region.noSelect ops = true) (hf : Region.free md ops listed i = true) (hr : (Region.ready md ops listed).contains i = true)
  (hQ : ∀ c a w, Q (.panic c) (a.put (some k) v) w → Q (.panic c) a w) (hy : YieldsIf P ops S oi v a) (hS : S w)
  (h : wpAnyH P md ops Q S fuel (listed.setIfInBounds i true) (a.put (some k) v) w) : wpAnyH P md ops Q S (fuel + 1) listed a w := by
 rw [← hk] at hQ h
 exact wpAnyH_take hi hs hf hr hQ hy hS h
theorem keepc {w w' : World} {p : Addr} {v : Value} (hb : Below w.heap.size w w') (h : w.cell? p = some v) : w'.cell? p = some v := (hb.cell (World.block_lt_of_cell? _ _ h)).trans h
theorem belowS {W w w' : World} (hb : Below w.heap.size w w') (h : Below W.heap.size W w) : Below W.heap.size W w' := h.trans (hb.mono h.size)
theorem cellOf {w : World} {g : Nat} {cs : Array Value} {t : TypeId} {fr : Nat × Nat} (h : w.heap[g]? = some (.cells cs t fr)) (j : Nat) : w.cell? ⟨g, j, none⟩ = cs[j]? := cell_of_row w g j cs t fr h
theorem cellC {w : World} {g : Nat} {c : List Int} {t : TypeId} {fr : Nat × Nat} (h : w.heap[g]? = some (.cells (cv c) t fr)) (hl : c.length = 33) (j : Nat) (hj : j < 33) : w.cell? ⟨g, j, none⟩ = some (.int .u32 (reg c j)) := by
 rw [cellOf h, cv_get c j (by omega)]
theorem plain_calls (c : List Int) (hc : Wc c) (op rd : Int) (a b : Nat) (ha : a < 32) (hb : b < 32) (m : Int) (w : World) : Calls Try.prog 22 #[.agg (cv c), ia op rd a b m] w fun e w' => e = .returned (.tuple #[.int .u32 (plainv c op a b m).1, .bool (plainv c op a b m).2]) ∧ Below w.heap.size w w' := by
 have hl := hc.len
 have ha' : (a : Int) < 32 := by omega
 have hb' : (b : Int) < 32 := by omega
 have hW : Below w.heap.size w ((w.alloc (.cells (cv c) 25)).alloc (.cells #[.int .i64 op, .int .i64 rd, .int .i64 a, .int .i64 b, .int .i64 m] 27)) := ((Below.refl _ w).alloc (Nat.le_refl _) _).alloc (by simp) _
 have HW := Lib.hid hW
 clear hW
 unfold plainv
 by_cases h0 : op = 0
 ·subst h0
  rw [if_pos rfl]
  go_enter Try.func22, Try.ntmps22
  go_wp2
  go_ret2
  exact ⟨rfl, HW.out⟩
 by_cases h1 : op = 1
 ·subst h1
  rw [if_neg (by decide), if_pos rfl]
  go_enter Try.func22, Try.ntmps22
  go_wp2
  go_ret2
  exact ⟨rfl, HW.out⟩
 rw [if_neg h0, if_neg h1]
 have b0 : (op == 0) = false := beq_eq_false_iff_ne.mpr h0
 have b1 : (op == 1) = false := beq_eq_false_iff_ne.mpr h1
 have hp := Plain_c op
 have hra := hc.rng a
 have hrb := hc.rng b
 have HC := Lib.hid hc
 have hd1 := fun w => Do_c (plo op).1 (reg c a) (m % 4294967296) hra ⟨Int.emod_nonneg _ (by decide), Int.emod_lt_of_pos _ (by decide)⟩ w
 have hd2 := fun w => Do_c op (reg c a) (reg c b) hra hrb w
 obtain ⟨po, pi, hpo⟩ : ∃ po pi, plo op = (po, pi) := ⟨_, _, rfl⟩
 rw [hpo] at hp hd1 ⊢
 have HD1 := Lib.hid hd1
 have HD2 := Lib.hid hd2
 have HP := Lib.hid hp
 clear hpo hd1 hd2 hp hc
 simp only at HD1 HP ⊢
 generalize dov po (reg c a) (m % 4294967296) = d1 at *
 generalize dov op (reg c a) (reg c b) = d2 at *
 clear h0 h1
 go_enter Try.func22, Try.ntmps22
 go_wp2_with (go_at_call 52; refine hold_ ?_)
 intro _
 refine (HP.out _).mono ?_
 rintro e w2 ⟨rfl, hbw⟩
 obtain ⟨k0, k1, hz, hB⟩ := keep2 hbw
 have x0 := cellOf k1 0
 have x2 := cellOf k1 2
 have x3 := cellOf k1 3
 have x4 := cellOf k1 4
 have ca := cellC k0 hl a (by omega)
 have cb := cellC k0 hl b (by omega)
 simp at x0 x2 x3 x4
 have HB := Lib.hid hB
 have hz0 : w.heap.size < w2.heap.size := by omega
 clear hbw k0 k1 hB HW hra hrb b0 b1
 cases pi
 ·go_wp2
  refine wp_region_held_drew (S := fun w' => w'.cell? ⟨w.heap.size + 1, 0, none⟩ = some (.int .i64 op) ∧ w'.cell? ⟨w.heap.size + 1, 2, none⟩ = some (.int .i64 a) ∧ w'.cell? ⟨w.heap.size + 1, 3, none⟩ = some (.int .i64 b) ∧ w'.cell? ⟨w.heap.size, a, none⟩ = some (.int .u32 (reg c a)) ∧ w'.cell? ⟨w.heap.size, b, none⟩ = some (.int .u32 (reg c b)) ∧ Aside0 (Below w.heap.size w w')) (by kernel_rfl) ⟨x0, x2, x3, ca, cb, ⟨HB.out.drew⟩⟩ (fun hHeld => ?_)
  clear x0 x2 x3 x4 ca cb
  refine rh_take (i := 0) (k := 51) (v := ?_) rfl rfl (by kernel_rfl) (by kernel_rfl) (by kernel_rfl) (fun _ _ _ h => h) (Or.inl ⟨by rfl, ?_⟩) hHeld ?_
  rotate_left
  ·(intro w hSw; obtain ⟨s0, s1, s2, s3, s4, s5⟩ := hSw; go_simp; try with_reducible rfl)
  simp only [Act.put, List.setIfInBounds_toArray, List.set_cons_zero, List.set_cons_succ]
  refine rh_take (i := 1) (k := 52) (v := ?_) rfl rfl (by kernel_rfl) (by kernel_rfl) (by kernel_rfl) (fun _ _ _ h => h) (Or.inl ⟨by rfl, ?_⟩) hHeld ?_
  rotate_left
  ·(intro w hSw; obtain ⟨s0, s1, s2, s3, s4, s5⟩ := hSw; go_simp; try with_reducible rfl)
  simp only [Act.put, List.setIfInBounds_toArray, List.set_cons_zero, List.set_cons_succ]
  refine rh_take (i := 2) (k := 53) (v := ?_) rfl rfl (by kernel_rfl) (by kernel_rfl) (by kernel_rfl) (fun _ _ _ h => h) (Or.inl ⟨by rfl, ?_⟩) hHeld ?_
  rotate_left
  ·(intro w hSw; obtain ⟨s0, s1, s2, s3, s4, s5⟩ := hSw; go_simp; try with_reducible rfl)
  simp only [Act.put, List.setIfInBounds_toArray, List.set_cons_zero, List.set_cons_succ]
  refine rh_take (i := 3) (k := 54) (v := ?_) rfl rfl (by kernel_rfl) (by kernel_rfl) (by kernel_rfl) (fun _ _ _ h => h) (Or.inl ⟨by rfl, ?_⟩) hHeld ?_
  rotate_left
  ·(intro w hSw; obtain ⟨s0, s1, s2, s3, s4, s5⟩ := hSw; go_simp; try with_reducible rfl)
  simp only [Act.put, List.setIfInBounds_toArray, List.set_cons_zero, List.set_cons_succ]
  refine rh_take (i := 4) (k := 55) (v := ?_) rfl rfl (by kernel_rfl) (by kernel_rfl) (by kernel_rfl) (fun _ _ _ h => h) (Or.inl ⟨by rfl, ?_⟩) hHeld ?_
  rotate_left
  ·(intro w hSw; obtain ⟨s0, s1, s2, s3, s4, s5⟩ := hSw; go_simp; try with_reducible rfl)
  simp only [Act.put, List.setIfInBounds_toArray, List.set_cons_zero, List.set_cons_succ]
  refine rh_take (i := 5) (k := 56) (v := ?_) rfl rfl (by kernel_rfl) (by kernel_rfl) (by kernel_rfl) (fun _ _ _ h => h) (Or.inl ⟨by rfl, ?_⟩) hHeld ?_
  rotate_left
  ·(intro w hSw; obtain ⟨s0, s1, s2, s3, s4, s5⟩ := hSw; go_simp; try with_reducible rfl)
  simp only [Act.put, List.setIfInBounds_toArray, List.set_cons_zero, List.set_cons_succ]
  refine rh_take (i := 6) (k := 57) (v := ?_) rfl rfl (by kernel_rfl) (by kernel_rfl) (by kernel_rfl) (fun _ _ _ h => h) (Or.inl ⟨by rfl, ?_⟩) hHeld ?_
  rotate_left
  ·(intro w hSw; obtain ⟨s0, s1, s2, s3, s4, s5⟩ := hSw; go_simp; try with_reducible rfl)
  simp only [Act.put, List.setIfInBounds_toArray, List.set_cons_zero, List.set_cons_succ]
  refine rh_take (i := 7) (k := 58) (v := ?_) rfl rfl (by kernel_rfl) (by kernel_rfl) (by kernel_rfl) (fun _ _ _ h => h) (Or.inl ⟨by rfl, ?_⟩) hHeld ?_
  rotate_left
  ·(intro w hSw; obtain ⟨s0, s1, s2, s3, s4, s5⟩ := hSw; go_simp; try with_reducible rfl)
  simp only [Act.put, List.setIfInBounds_toArray, List.set_cons_zero, List.set_cons_succ]
  refine rh_take (i := 8) (k := 59) (v := ?_) rfl rfl (by kernel_rfl) (by kernel_rfl) (by kernel_rfl) (fun _ _ _ h => h) (Or.inl ⟨by rfl, ?_⟩) hHeld ?_
  rotate_left
  ·(intro w hSw; obtain ⟨s0, s1, s2, s3, s4, s5⟩ := hSw; go_simp; try with_reducible rfl)
  simp only [Act.put, List.setIfInBounds_toArray, List.set_cons_zero, List.set_cons_succ]
  refine rh_take (i := 9) (k := 60) (v := ?_) rfl rfl (by kernel_rfl) (by kernel_rfl) (by kernel_rfl) (fun _ _ _ h => h) (Or.inl ⟨by rfl, ?_⟩) hHeld ?_
  rotate_left
  ·(intro w hSw; obtain ⟨s0, s1, s2, s3, s4, s5⟩ := hSw; go_simp; try with_reducible rfl)
  simp only [Act.put, List.setIfInBounds_toArray, List.set_cons_zero, List.set_cons_succ]
  refine rh_take (i := 10) (k := 61) (v := ?_) rfl rfl (by kernel_rfl) (by kernel_rfl) (by kernel_rfl) (fun _ _ _ h => h) (Or.inl ⟨by rfl, ?_⟩) hHeld ?_
  rotate_left
  ·(intro w hSw; obtain ⟨s0, s1, s2, s3, s4, s5⟩ := hSw; go_simp; try with_reducible rfl)
  simp only [Act.put, List.setIfInBounds_toArray, List.set_cons_zero, List.set_cons_succ]
  refine rh_take (i := 11) (k := 62) (v := ?_) rfl rfl (by kernel_rfl) (by kernel_rfl) (by kernel_rfl) (fun _ _ _ h => h) (Or.inl ⟨by rfl, ?_⟩) hHeld ?_
  rotate_left
  ·(intro w hSw; obtain ⟨s0, s1, s2, s3, s4, s5⟩ := hSw; go_simp; try with_reducible rfl)
  simp only [Act.put, List.setIfInBounds_toArray, List.set_cons_zero, List.set_cons_succ]
  refine wpAnyH_ready (rs := [12]) (by kernel_rfl) (by simp) ?_
  refine AllReadyH.cons (i := 12) rfl (fun K hK => ?_) AllReadyH.nil
  go_simp
  refine (HD2.out _).mono ?_
  rintro e w3 ⟨rfl, hd⟩
  go_wp2_with fail
  refine hK.out _ _ ⟨keepc hd hHeld.1, keepc hd hHeld.2.1, keepc hd hHeld.2.2.1, keepc hd hHeld.2.2.2.1, keepc hd hHeld.2.2.2.2.1, ⟨belowS hd hHeld.2.2.2.2.2.out⟩⟩ (fun hHeld => ?_)
  clear hK K
  try simp only [Act.put, List.setIfInBounds_toArray, List.set_cons_zero, List.set_cons_succ]
  refine rh_take (i := 13) (k := 50) (v := ?_) rfl rfl (by kernel_rfl) (by kernel_rfl) (by kernel_rfl) (fun _ _ _ h => h) (Or.inl ⟨by rfl, ?_⟩) hHeld ?_
  rotate_left
  ·(intro w hSw; obtain ⟨s0, s1, s2, s3, s4, s5⟩ := hSw; go_simp; try with_reducible rfl)
  simp only [Act.put, List.setIfInBounds_toArray, List.set_cons_zero, List.set_cons_succ]
  refine rh_take (i := 14) (k := 64) (v := ?_) rfl rfl (by kernel_rfl) (by kernel_rfl) (by kernel_rfl) (fun _ _ _ h => h) (Or.inl ⟨by rfl, ?_⟩) hHeld ?_
  rotate_left
  ·(intro w hSw; obtain ⟨s0, s1, s2, s3, s4, s5⟩ := hSw; go_simp; try with_reducible rfl)
  simp only [Act.put, List.setIfInBounds_toArray, List.set_cons_zero, List.set_cons_succ]
  refine rh_take (i := 15) (k := 65) (v := ?_) rfl rfl (by kernel_rfl) (by kernel_rfl) (by kernel_rfl) (fun _ _ _ h => h) (Or.inl ⟨by rfl, ?_⟩) hHeld ?_
  rotate_left
  ·(intro w hSw; obtain ⟨s0, s1, s2, s3, s4, s5⟩ := hSw; go_simp; try with_reducible rfl)
  simp only [Act.put, List.setIfInBounds_toArray, List.set_cons_zero, List.set_cons_succ]
  refine rh_take (i := 16) (k := 10) (v := ?_) rfl rfl (by kernel_rfl) (by kernel_rfl) (by kernel_rfl) (fun _ _ _ h => h) (Or.inl ⟨by rfl, ?_⟩) hHeld ?_
  rotate_left
  ·(intro w hSw; obtain ⟨s0, s1, s2, s3, s4, s5⟩ := hSw; go_simp; try with_reducible rfl)
  simp only [Act.put, List.setIfInBounds_toArray, List.set_cons_zero, List.set_cons_succ]
  refine rh_take (i := 17) (k := 11) (v := ?_) rfl rfl (by kernel_rfl) (by kernel_rfl) (by kernel_rfl) (fun _ _ _ h => h) (Or.inl ⟨by rfl, ?_⟩) hHeld ?_
  rotate_left
  ·(intro w hSw; obtain ⟨s0, s1, s2, s3, s4, s5⟩ := hSw; go_simp; try with_reducible rfl)
  simp only [Act.put, List.setIfInBounds_toArray, List.set_cons_zero, List.set_cons_succ]
  refine wpAnyH_done (by kernel_rfl) ?_ _
  obtain ⟨_, _, _, _, _, hB⟩ := hHeld
  go_wp2
  go_ret2
  exact ⟨rfl, hB.out⟩
 ·go_wp2
  refine wp_region_held_drew (S := fun w' => w'.cell? ⟨w.heap.size + 1, 2, none⟩ = some (.int .i64 a) ∧ w'.cell? ⟨w.heap.size + 1, 4, none⟩ = some (.int .i64 m) ∧ w'.cell? ⟨w.heap.size, a, none⟩ = some (.int .u32 (reg c a)) ∧ Aside0 (Below w.heap.size w w')) (by kernel_rfl) ⟨x2, x4, ca, ⟨HB.out.drew⟩⟩ (fun hHeld => ?_)
  clear x0 x2 x3 x4 ca cb
  refine rh_take (i := 0) (k := 37) (v := ?_) rfl rfl (by kernel_rfl) (by kernel_rfl) (by kernel_rfl) (fun _ _ _ h => h) (Or.inl ⟨by rfl, ?_⟩) hHeld ?_
  rotate_left
  ·(intro w hSw; obtain ⟨s0, s1, s2, s3⟩ := hSw; go_simp; try with_reducible rfl)
  simp only [Act.put, List.setIfInBounds_toArray, List.set_cons_zero, List.set_cons_succ]
  refine rh_take (i := 1) (k := 38) (v := ?_) rfl rfl (by kernel_rfl) (by kernel_rfl) (by kernel_rfl) (fun _ _ _ h => h) (Or.inl ⟨by rfl, ?_⟩) hHeld ?_
  rotate_left
  ·(intro w hSw; obtain ⟨s0, s1, s2, s3⟩ := hSw; go_simp; try with_reducible rfl)
  simp only [Act.put, List.setIfInBounds_toArray, List.set_cons_zero, List.set_cons_succ]
  refine rh_take (i := 2) (k := 39) (v := ?_) rfl rfl (by kernel_rfl) (by kernel_rfl) (by kernel_rfl) (fun _ _ _ h => h) (Or.inl ⟨by rfl, ?_⟩) hHeld ?_
  rotate_left
  ·(intro w hSw; obtain ⟨s0, s1, s2, s3⟩ := hSw; go_simp; try with_reducible rfl)
  simp only [Act.put, List.setIfInBounds_toArray, List.set_cons_zero, List.set_cons_succ]
  refine rh_take (i := 3) (k := 40) (v := ?_) rfl rfl (by kernel_rfl) (by kernel_rfl) (by kernel_rfl) (fun _ _ _ h => h) (Or.inl ⟨by rfl, ?_⟩) hHeld ?_
  rotate_left
  ·(intro w hSw; obtain ⟨s0, s1, s2, s3⟩ := hSw; go_simp; try with_reducible rfl)
  simp only [Act.put, List.setIfInBounds_toArray, List.set_cons_zero, List.set_cons_succ]
  refine rh_take (i := 4) (k := 41) (v := ?_) rfl rfl (by kernel_rfl) (by kernel_rfl) (by kernel_rfl) (fun _ _ _ h => h) (Or.inl ⟨by rfl, ?_⟩) hHeld ?_
  rotate_left
  ·(intro w hSw; obtain ⟨s0, s1, s2, s3⟩ := hSw; go_simp; try with_reducible rfl)
  simp only [Act.put, List.setIfInBounds_toArray, List.set_cons_zero, List.set_cons_succ]
  refine rh_take (i := 5) (k := 42) (v := ?_) rfl rfl (by kernel_rfl) (by kernel_rfl) (by kernel_rfl) (fun _ _ _ h => h) (Or.inl ⟨by rfl, ?_⟩) hHeld ?_
  rotate_left
  ·(intro w hSw; obtain ⟨s0, s1, s2, s3⟩ := hSw; go_simp; try with_reducible rfl)
  simp only [Act.put, List.setIfInBounds_toArray, List.set_cons_zero, List.set_cons_succ]
  refine rh_take (i := 6) (k := 43) (v := ?_) rfl rfl (by kernel_rfl) (by kernel_rfl) (by kernel_rfl) (fun _ _ _ h => h) (Or.inl ⟨by rfl, ?_⟩) hHeld ?_
  rotate_left
  ·(intro w hSw; obtain ⟨s0, s1, s2, s3⟩ := hSw; go_simp; try with_reducible rfl)
  simp only [Act.put, List.setIfInBounds_toArray, List.set_cons_zero, List.set_cons_succ]
  refine rh_take (i := 7) (k := 44) (v := ?_) rfl rfl (by kernel_rfl) (by kernel_rfl) (by kernel_rfl) (fun _ _ _ h => h) (Or.inl ⟨by rfl, ?_⟩) hHeld ?_
  rotate_left
  ·(intro w hSw; obtain ⟨s0, s1, s2, s3⟩ := hSw; go_simp; try with_reducible rfl)
  simp only [Act.put, List.setIfInBounds_toArray, List.set_cons_zero, List.set_cons_succ]
  refine rh_take (i := 8) (k := 45) (v := ?_) rfl rfl (by kernel_rfl) (by kernel_rfl) (by kernel_rfl) (fun _ _ _ h => h) (Or.inl ⟨by rfl, ?_⟩) hHeld ?_
  rotate_left
  ·(intro w hSw; obtain ⟨s0, s1, s2, s3⟩ := hSw; go_simp; try with_reducible rfl)
  simp only [Act.put, List.setIfInBounds_toArray, List.set_cons_zero, List.set_cons_succ]
  refine wpAnyH_ready (rs := [9]) (by kernel_rfl) (by simp) ?_
  refine AllReadyH.cons (i := 9) rfl (fun K hK => ?_) AllReadyH.nil
  go_simp
  refine (HD1.out _).mono ?_
  rintro e w3 ⟨rfl, hd⟩
  go_wp2_with fail
  refine hK.out _ _ ⟨keepc hd hHeld.1, keepc hd hHeld.2.1, keepc hd hHeld.2.2.1, ⟨belowS hd hHeld.2.2.2.out⟩⟩ (fun hHeld => ?_)
  clear hK K
  try simp only [Act.put, List.setIfInBounds_toArray, List.set_cons_zero, List.set_cons_succ]
  refine rh_take (i := 10) (k := 36) (v := ?_) rfl rfl (by kernel_rfl) (by kernel_rfl) (by kernel_rfl) (fun _ _ _ h => h) (Or.inl ⟨by rfl, ?_⟩) hHeld ?_
  rotate_left
  ·(intro w hSw; obtain ⟨s0, s1, s2, s3⟩ := hSw; go_simp; try with_reducible rfl)
  simp only [Act.put, List.setIfInBounds_toArray, List.set_cons_zero, List.set_cons_succ]
  refine rh_take (i := 11) (k := 47) (v := ?_) rfl rfl (by kernel_rfl) (by kernel_rfl) (by kernel_rfl) (fun _ _ _ h => h) (Or.inl ⟨by rfl, ?_⟩) hHeld ?_
  rotate_left
  ·(intro w hSw; obtain ⟨s0, s1, s2, s3⟩ := hSw; go_simp; try with_reducible rfl)
  simp only [Act.put, List.setIfInBounds_toArray, List.set_cons_zero, List.set_cons_succ]
  refine rh_take (i := 12) (k := 48) (v := ?_) rfl rfl (by kernel_rfl) (by kernel_rfl) (by kernel_rfl) (fun _ _ _ h => h) (Or.inl ⟨by rfl, ?_⟩) hHeld ?_
  rotate_left
  ·(intro w hSw; obtain ⟨s0, s1, s2, s3⟩ := hSw; go_simp; try with_reducible rfl)
  simp only [Act.put, List.setIfInBounds_toArray, List.set_cons_zero, List.set_cons_succ]
  refine rh_take (i := 13) (k := 8) (v := ?_) rfl rfl (by kernel_rfl) (by kernel_rfl) (by kernel_rfl) (fun _ _ _ h => h) (Or.inl ⟨by rfl, ?_⟩) hHeld ?_
  rotate_left
  ·(intro w hSw; obtain ⟨s0, s1, s2, s3⟩ := hSw; go_simp; try with_reducible rfl)
  simp only [Act.put, List.setIfInBounds_toArray, List.set_cons_zero, List.set_cons_succ]
  refine rh_take (i := 14) (k := 9) (v := ?_) rfl rfl (by kernel_rfl) (by kernel_rfl) (by kernel_rfl) (fun _ _ _ h => h) (Or.inl ⟨by rfl, ?_⟩) hHeld ?_
  rotate_left
  ·(intro w hSw; obtain ⟨s0, s1, s2, s3⟩ := hSw; go_simp; try with_reducible rfl)
  simp only [Act.put, List.setIfInBounds_toArray, List.set_cons_zero, List.set_cons_succ]
  refine wpAnyH_done (by kernel_rfl) ?_ _
  obtain ⟨_, _, _, hB⟩ := hHeld
  go_wp2
  go_ret2
  exact ⟨rfl, hB.out⟩
end Go.Proofs.Ytononmcodecmaaa.Cp
end
section
/- Layer 4: the machine (part KD). -/
namespace Go.Proofs.Ytononmcodecmaaa.Cp
open Go.RowKit Go.Maps Go.Proofs Go.Proofs.YtononmcodecmaaaW Go.Proofs.YtononmcodecmaaaW.PrintWords
set_option maxRecDepth 100000
set_option linter.unusedVariables false
set_option linter.unusedSimpArgs false
attribute [local go_sem] cv_set cv_at cv_size
theorem right_regs (op rd a b m : Int) (h : Q.rightv op rd a b m = true) : ∃ r x y : Nat, rd = r ∧ a = x ∧ b = y ∧ r < 32 ∧ x < 32 ∧ y < 32 := by
 unfold Q.rightv Q.regv at h
 simp only [Bool.and_eq_true, decide_eq_true_eq] at h
 obtain ⟨_, h1, h2, h3, _⟩ := h
 exact ⟨rd.toNat, a.toNat, b.toNat, by omega, by omega, by omega, by omega, by omega, by omega⟩
def doesv (c : List Int) (op rd a b m : Int) : List Int × Bool :=
 if Q.rightv op rd a b m = true then
  (if (plainv (c.set 0 0) op a.toNat b.toNat m).2 = true then (rset (c.set 0 0) rd.toNat (plainv (c.set 0 0) op a.toNat b.toNat m).1, true) else (c.set 0 0, false))
 else (c.set 0 0, false)
theorem Wc.set {c : List Int} (h : Wc c) (i : Nat) (v : Int) (hv : 0 ≤ v ∧ v < 4294967296) : Wc (c.set i v) := by
 refine ⟨by rw [List.length_set]; exact h.len, fun j => ?_⟩
 by_cases e : i = j
 ·subst e
  by_cases hi : i < c.length
  ·rw [reg_set_eq _ _ _ hi]; exact hv
  ·rw [List.set_eq_of_length_le (by omega)]; exact h.rng i
 ·rw [reg_set_ne _ _ _ _ e]; exact h.rng j
theorem Wc.rset {c : List Int} (h : Wc c) (rd : Nat) (v : Int) (hv : 0 ≤ v ∧ v < 4294967296) : Wc (rset c rd v) := by
 unfold Cp.rset
 have hp : 0 ≤ (reg c 32 + 4) % 4294967296 ∧ (reg c 32 + 4) % 4294967296 < 4294967296 := ⟨Int.emod_nonneg _ (by decide), Int.emod_lt_of_pos _ (by decide)⟩
 split
 ·exact h.set _ _ hp
 ·exact (h.set _ _ hv).set _ _ hp
theorem plainv_rng {c : List Int} (h : Wc c) (op : Int) (a b : Nat) (m : Int) : 0 ≤ (plainv c op a b m).1 ∧ (plainv c op a b m).1 < 4294967296 := by
 unfold plainv
 split
 ·exact mod_rng _
 split
 ·exact mod_rng _
 split
 ·exact dov_rng _ _ _ (h.rng _) (mod_rng _)
 ·exact dov_rng _ _ _ (h.rng _) (h.rng _)
theorem stRow {w : World} {g : Nat} {c : List Int} (hg : w.heap[g]? = some (.cells (cv c) 25 (0, 0))) (i : Nat) (v : Int) : w.setCell ⟨g, i, none⟩ (.int .u32 v) = w.setRow g (cv (c.set i v)) := by
 rw [setCell_eq_setRow _ _ _ _ _ _ _ hg, cv_set]
theorem Does_calls (c : List Int) (hc : Wc c) (op rd a b m : Int) (w : World) : Calls Try.prog 9 #[.agg (cv c), ia op rd a b m] w fun e w' => e = .returned (.tuple #[.agg (cv (doesv c op rd a b m).1), .bool (doesv c op rd a b m).2]) ∧ Below w.heap.size w w' := by
 have hl := hc.len
 have hc0 : Wc (c.set 0 0) := hc.set 0 0 (by omega)
 have hl0 := hc0.len
 have HR := Lib.hid (Right_c op rd a b m)
 unfold doesv
 by_cases hr : Q.rightv op rd a b m = true
 ·obtain ⟨r, x, y, rfl, rfl, rfl, hr1, hx, hy⟩ := right_regs op rd a b m hr
  rw [if_pos hr]
  rw [hr] at HR
  clear hr
  simp only [Int.toNat_natCast]
  have hpl := plain_calls (c.set 0 0) hc0 op (r : Int) x y hx hy m
  have hpr := plainv_rng hc0 op x y m
  generalize plainv (c.set 0 0) op x y m = pv at *
  obtain ⟨v, is⟩ := pv
  have HPL := Lib.hid hpl
  clear hpl
  simp only at hpr HPL ⊢
  cases is
  ·rw [if_neg (by decide)]
   go_enter Try.func9, Try.ntmps9
   go_wp2_with (first | refine alC rfl rfl ?_ | (go_at_call 21; refine hold_ ?_))
   intro _
   refine (HR.out _).mono ?_
   rintro e w3 ⟨rfl, hbw⟩
   obtain ⟨k0, k1, k2, hz, hB⟩ := keep3 hbw
   clear hbw HR
   have HB := Lib.hid hB
   have K0 := Lib.hid k0
   have K1 := Lib.hid k1
   have K2 := Lib.hid k2
   clear hB k0 k1 k2
   have x0 := cellOf K1.out 0
   have x1 := cellOf K1.out 1
   have x2 := cellOf K1.out 2
   have x3 := cellOf K1.out 3
   have x4 := cellOf K1.out 4
   simp at x0 x1 x2 x3 x4
   go_wp2_with (first | refine ldC rfl _ rfl _ rfl _ (0, 0) K0.out hl0 ?_ | (go_at_call 22; refine hold_ ?_))
   intro _
   refine (HPL.out _).mono ?_
   rintro e w4 ⟨rfl, hbw⟩
   have K0' := Lib.hid ((hbw.block w.heap.size (by omega)).trans K0.out)
   have K1' := Lib.hid ((hbw.block (w.heap.size + 1) (by omega)).trans K1.out)
   have K2' := Lib.hid ((hbw.block (w.heap.size + 2) (by omega)).trans K2.out)
   have HB' := Lib.hid (belowS hbw HB.out)
   have hz' : w.heap.size + 3 ≤ w4.heap.size := Nat.le_trans hz hbw.size
   clear hbw K0 K1 K2 HB hz x0 x1 x2 x3 x4 HPL
   go_wp2_with (first | refine ldC rfl _ rfl _ rfl _ (0, 0) K0'.out hl0 ?_ | refine stC rfl _ _ rfl _ _ rfl rfl zs K2'.out hl0 rfl ?_)
   refine retC2 rfl rfl (setRow_heap _ _ _ _ _ _ K2'.out) hl0 rfl rfl ⟨rfl, ?_⟩
   exact below_setRow HB'.out (by omega) _
  ·rw [if_pos rfl]
   have hpc : reg (if r = 0 then c.set 0 0 else (c.set 0 0).set r v) 32 = reg (c.set 0 0) 32 := by
    split
    ·rfl
    ·exact reg_set_ne _ _ _ _ (by omega)
   have hc1 : Wc (if r = 0 then c.set 0 0 else (c.set 0 0).set r v) := by
    split
    ·exact hc0
    ·exact hc0.set _ _ hpr
   have HS := Lib.hid (set_calls (c.set 0 0) hl0 r hr1 v)
   unfold rset
   generalize (if r = 0 then c.set 0 0 else (c.set 0 0).set r v) = d at *
   have hl1 := hc1.len
   have hl2 : (d.set 32 ((reg d 32 + 4) % 4294967296)).length = 33 := by rw [List.length_set]; exact hl1
   rw [← hpc]
   have HPC := Lib.hid hpc
   clear hpc
   go_enter Try.func9, Try.ntmps9
   go_wp2_with (first | refine alC rfl rfl ?_ | (go_at_call 21; refine hold_ ?_))
   intro _
   refine (HR.out _).mono ?_
   rintro e w3 ⟨rfl, hbw⟩
   obtain ⟨k0, k1, k2, hz, hB⟩ := keep3 hbw
   clear hbw HR
   have HB := Lib.hid hB
   have K0 := Lib.hid k0
   have K1 := Lib.hid k1
   have K2 := Lib.hid k2
   clear hB k0 k1 k2
   have x0 := cellOf K1.out 0
   have x1 := cellOf K1.out 1
   have x2 := cellOf K1.out 2
   have x3 := cellOf K1.out 3
   have x4 := cellOf K1.out 4
   simp at x0 x1 x2 x3 x4
   go_wp2_with (first | refine ldC rfl _ rfl _ rfl _ (0, 0) K0.out hl0 ?_ | (go_at_call 22; refine hold_ ?_))
   intro _
   refine (HPL.out _).mono ?_
   rintro e w4 ⟨rfl, hbw⟩
   have K0' := Lib.hid ((hbw.block w.heap.size (by omega)).trans K0.out)
   have K1' := Lib.hid ((hbw.block (w.heap.size + 1) (by omega)).trans K1.out)
   have K2' := Lib.hid ((hbw.block (w.heap.size + 2) (by omega)).trans K2.out)
   have HB' := Lib.hid (belowS hbw HB.out)
   have hz' : w.heap.size + 3 ≤ w4.heap.size := Nat.le_trans hz hbw.size
   clear hbw K0 K1 K2 HB hz x0 x1 x2 x3 x4 HPL
   have x1 := cellOf K1'.out 1
   simp at x1
   go_wp2_with (first | refine ldC rfl _ rfl _ rfl _ (0, 0) K0'.out hl0 ?_ | (go_at_call 23; refine hold_ ?_))
   intro _
   refine (HS.out _).mono ?_
   rintro e w5 ⟨rfl, hbw⟩
   have K0 := Lib.hid ((hbw.block w.heap.size (by omega)).trans K0'.out)
   have K2 := Lib.hid ((hbw.block (w.heap.size + 2) (by omega)).trans K2'.out)
   have HB := Lib.hid (belowS hbw HB'.out)
   have hz : w.heap.size + 3 ≤ w5.heap.size := Nat.le_trans hz' hbw.size
   clear hbw K0' K1' K2' HB' hz' x1 HS
   have hq := setRow_heap w5 w.heap.size _ (cv d) _ _ K0.out
   have hf : World.frozen? (w5.setRow w.heap.size (cv d)) ⟨w.heap.size, 32, none⟩ = false := frozen_of_row _ _ _ _ _ hq
   have hcl := cellC hq hl1 32 (by omega)
   have hst := stRow hq 32 ((reg d 32 + 4) % 4294967296)
   rw [setRow_setRow] at hst
   have K0q := Lib.hid (setRow_heap w5 w.heap.size _ (cv (d.set 32 ((reg d 32 + 4) % 4294967296))) _ _ K0.out)
   have K2q := Lib.hid ((setRow_other w5 w.heap.size (w.heap.size + 2) (cv (d.set 32 ((reg d 32 + 4) % 4294967296))) (by omega)).trans K2.out)
   have hzs : w.heap.size < (w5.setRow w.heap.size (cv d)).heap.size := by
    have : (w5.setRow w.heap.size (cv d)).heap.size = w5.heap.size := by simp [World.setRow]
    omega
   clear hq
   go_wp2_with (first | refine stC rfl _ _ rfl _ _ rfl rfl (c.set 0 0) K0.out hl1 hl0 ?_ | refine ldC rfl _ rfl _ rfl _ (0, 0) K0q.out hl2 ?_ | refine stC rfl _ _ rfl _ _ rfl rfl zs K2q.out hl2 rfl ?_)
   refine retC2 rfl rfl (setRow_heap _ _ _ _ _ _ K2q.out) hl2 rfl rfl ⟨rfl, ?_⟩
   exact below_setRow (below_setRow HB.out (by omega) _) (by omega) _
 ·rw [if_neg hr]
  have hr' : Q.rightv op rd a b m = false := by simpa using hr
  rw [hr'] at HR
  clear hr hr'
  go_enter Try.func9, Try.ntmps9
  go_wp2_with (first | refine alC rfl rfl ?_ | (go_at_call 21; refine hold_ ?_))
  intro _
  refine (HR.out _).mono ?_
  rintro e w3 ⟨rfl, hbw⟩
  obtain ⟨k0, k1, k2, hz, hB⟩ := keep3 hbw
  clear hbw HR
  have HB := Lib.hid hB
  have K0 := Lib.hid k0
  have K1 := Lib.hid k1
  have K2 := Lib.hid k2
  clear hB k0 k1 k2
  go_wp2_with (first | refine ldC rfl _ rfl _ rfl _ (0, 0) K0.out hl0 ?_ | refine stC rfl _ _ rfl _ _ rfl rfl zs K2.out hl0 rfl ?_)
  refine retC2 rfl rfl (setRow_heap _ _ _ _ _ _ K2.out) hl0 rfl rfl ⟨rfl, ?_⟩
  exact below_setRow HB.out (by omega) _
end Go.Proofs.Ytononmcodecmaaa.Cp
end
section
/- Layer 4: the machine (part KE). -/
namespace Go.Proofs.Ytononmcodecmaaa.Cp
open Go.RowKit Go.Maps Go.Proofs Go.Proofs.YtononmcodecmaaaW Go.Proofs.YtononmcodecmaaaW.PrintWords
set_option maxRecDepth 100000
set_option linter.unusedVariables false
set_option linter.unusedSimpArgs false
attribute [local go_sem] cv_set cv_at cv_size
theorem plainv_0 (c : List Int) (a b : Nat) (m : Int) : plainv c 0 a b m = (upv m, true) := by unfold plainv; rw [if_pos rfl]
theorem plainv_1 (c : List Int) (a b : Nat) (m : Int) : plainv c 1 a b m = ((reg c 32 + upv m) % 4294967296, true) := by unfold plainv; rw [if_neg (by decide), if_pos rfl]
theorem plainv_i (c : List Int) (op : Int) (a b : Nat) (m : Int) (q v e : Int) (h0 : ¬ op = 0) (h1 : ¬ op = 1) (hq : plo op = (q, true)) (hd : dov q (reg c a) (m % 4294967296) = (v, e)) : plainv c op a b m = (v, true) := by
 unfold plainv; rw [if_neg h0, if_neg h1, hq, if_pos rfl, hd]
theorem plainv_r (c : List Int) (op : Int) (a b : Nat) (m : Int) (q v e : Int) (h0 : ¬ op = 0) (h1 : ¬ op = 1) (hq : plo op = (q, false)) (hd : dov op (reg c a) (reg c b) = (v, e)) : plainv c op a b m = (v, decide (e = 0)) := by
 unfold plainv; rw [if_neg h0, if_neg h1, hq, if_neg (by simp), hd]
end Go.Proofs.Ytononmcodecmaaa.Cp
end
