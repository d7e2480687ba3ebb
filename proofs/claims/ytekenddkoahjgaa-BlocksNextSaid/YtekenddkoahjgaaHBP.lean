import Derived.Test.YtekenddkoahjgaaHBE
import Derived.WalkKit
import Derived.KernelRfl
import Derived.Below
import Derived.Outline
import Derived.LoopTactic
import Derived.Maps.Own
import Derived.Maps.OwnOps
import Derived.Maps.OwnSet
import Derived.Maps.Views
import Derived.Maps.AppendAt
import Derived.Laws.BitsLemmas
import Derived.Laws.BitsAllLaws
import Derived.Deep.LoopGhost
import Derived.Lib.Hide
import Derived.Deep.QuietTactic
import Derived.BigQuiet
import Derived.Deep.Draws
import Derived.Laws.StructEq
import Derived.Deep.Slices
import Derived.Deep.Fields
import Derived.ChangeSame
import Derived.Deep.CutBlock
import Derived.Deep.DeepCutAuto
import Derived.Deep.RegionHeld3
import Derived.StillTailTactics
import Derived.WalkSmall
import Derived.OwnWalk
import Derived.Laws.OwnMore
import Derived.Laws.BytesArg
import Derived.Laws.MakeOwn
import Derived.Laws.Tables
import Derived.Laws.Rows
import Derived.Laws.World
import Derived.Lib.SliceRun
/- Layer 8, walked: what is reached, and its blocks. -/
namespace Go.Proofs.Ytekenddkoahjgaa.Bl
open Go.RowKit Go.Maps Go.Proofs
set_option maxRecDepth 100000
set_option linter.unusedVariables false
set_option linter.unusedSimpArgs false
inductive Rch (I : Nat → Ins × Int) (aft : Ins → Nat → List Nat) (S : List Nat) : Nat → Prop
 | base {a : Nat} : a ∈ S → Rch I aft S a
 | step {a b : Nat} : Rch I aft S a → (I a).2 = 0 → b ∈ aft (I a).1 a → Rch I aft S b
structure RGo (I : Nat → Ins × Int) (aft : Ins → Nat → List Nat) (nd : Ins → Bool) (S : List Nat) (s : RS) : Prop where
 le : ∀ a, a ∈ s.left ∨ a ∈ s.seen ∨ a ∈ s.bad → Rch I aft S a
 ok : ∀ a ∈ s.seen, (I a).2 = 0
 no : ∀ a ∈ s.bad, (I a).2 ≠ 0
 st : ∀ a ∈ S, a ∈ s.left ∨ a ∈ s.seen ∨ a ∈ s.bad
 cl : ∀ a ∈ s.seen, ∀ b ∈ aft (I a).1 a, b ∈ s.left ∨ b ∈ s.seen ∨ b ∈ s.bad
 ld : ∀ a, a ∈ s.lead ↔ a ∈ S ∨ ∃ b ∈ s.seen, nd (I b).1 = true ∧ a ∈ aft (I b).1 b
section
variable {I : Nat → Ins × Int} {aft : Ins → Nat → List Nat} {nd : Ins → Bool} {S : List Nat}
theorem RGo.step {s : RS} (h : RGo I aft nd S s) : RGo I aft nd S (rstep I aft nd s) := by
 obtain ⟨sl, ss, sd, sb⟩ := s
 obtain ⟨h1, h2, h3, h4, h5, h6⟩ := h
 simp only at h1 h2 h3 h4 h5 h6
 cases sl with
 | nil => exact ⟨h1, h2, h3, h4, h5, h6⟩
 | cons a l =>
  unfold rstep
  simp only
  have hra : Rch I aft S a := h1 a (.inl (by simp))
  have mv : ∀ {x : Nat} {q : Prop}, (x ∈ a :: l ∨ q) → (x = a → x ∈ l ∨ q) → x ∈ l ∨ q := fun {x q} hx ha => by
   rcases hx with hx | hx
   ·rcases List.mem_cons.1 hx with e | hx
    ·exact ha e
    ·exact .inl hx
   ·exact .inr hx
  split
  ·rename_i hs
   refine ⟨fun x hx => h1 x ?_, h2, h3, fun x hx => mv (h4 x hx) (fun e => .inr (.inl (by rw [e]; exact hs))), fun x hx b hb => mv (h5 x hx b hb) (fun e => .inr (.inl (by rw [e]; exact hs))), h6⟩
   rcases hx with hx | hx
   ·exact .inl (by simp only at hx; simp [hx])
   ·exact .inr hx
  ·rename_i hs
   split
   ·rename_i he
    have hsub : ∀ x, x ∈ (if a ∈ sb then sb else a :: sb) ↔ x = a ∨ x ∈ sb := fun x => by
     split
     ·rename_i hab
      exact ⟨.inr, fun h => h.elim (fun e => by rw [e]; exact hab) id⟩
     ·simp
    refine ⟨fun x hx => ?_, h2, fun x hx => ?_, fun x hx => ?_, fun x hx b hb => ?_, h6⟩
    ·simp only at hx
     rw [hsub] at hx
     rcases hx with hx | hx | rfl | hx
     ·exact h1 x (.inl (by simp [hx]))
     ·exact h1 x (.inr (.inl hx))
     ·exact hra
     ·exact h1 x (.inr (.inr hx))
    ·simp only at hx
     rw [hsub] at hx
     rcases hx with rfl | hx
     ·exact he
     ·exact h3 x hx
    ·simp only [hsub]
     refine mv (q := x ∈ ss ∨ x = a ∨ x ∈ sb) ?_ (fun e => .inr (.inr (.inl e)))
     rcases h4 x hx with h | h | h
     ·exact .inl h
     ·exact .inr (.inl h)
     ·exact .inr (.inr (.inr h))
    ·simp only [hsub]
     refine mv (q := b ∈ ss ∨ b = a ∨ b ∈ sb) ?_ (fun e => .inr (.inr (.inl e)))
     rcases h5 x hx b hb with h | h | h
     ·exact .inl h
     ·exact .inr (.inl h)
     ·exact .inr (.inr (.inr h))
   ·rename_i he
    have he0 : (I a).2 = 0 := Classical.not_not.1 he
    refine ⟨fun x hx => ?_, fun x hx => ?_, h3, fun x hx => ?_, fun x hx b hb => ?_, fun x => ?_⟩
    ·simp only [List.mem_append, List.mem_reverse, List.mem_cons] at hx
     rcases hx with (hx | hx) | (rfl | hx) | hx
     ·exact Rch.step hra he0 hx
     ·exact h1 x (.inl (by simp [hx]))
     ·exact hra
     ·exact h1 x (.inr (.inl hx))
     ·exact h1 x (.inr (.inr hx))
    ·rcases List.mem_cons.1 hx with rfl | hx
     ·exact he0
     ·exact h2 x hx
    ·simp only [List.mem_append, List.mem_reverse, List.mem_cons]
     rcases h4 x hx with h | h | h
     ·rcases List.mem_cons.1 h with e | h
      ·exact .inr (.inl (.inl e))
      ·exact .inl (.inr h)
     ·exact .inr (.inl (.inr h))
     ·exact .inr (.inr h)
    ·simp only [List.mem_append, List.mem_reverse, List.mem_cons]
     rcases List.mem_cons.1 hx with rfl | hx
     ·exact .inl (.inl hb)
     ·rcases h5 x hx b hb with h | h | h
      ·rcases List.mem_cons.1 h with e | h
       ·exact .inr (.inl (.inl e))
       ·exact .inl (.inr h)
      ·exact .inr (.inl (.inr h))
      ·exact .inr (.inr h)
    ·simp only
     by_cases hn : nd (I a).1 = true
     ·rw [if_pos hn]
      simp only [List.mem_append, List.mem_reverse, List.mem_cons, h6]
      constructor
      ·rintro (hx | hx | ⟨b, hb, h1, h2⟩)
       ·exact .inr ⟨a, .inl rfl, hn, hx⟩
       ·exact .inl hx
       ·exact .inr ⟨b, .inr hb, h1, h2⟩
      ·rintro (hx | ⟨b, rfl | hb, h1, h2⟩)
       ·exact .inr (.inl hx)
       ·exact .inl h2
       ·exact .inr (.inr ⟨b, hb, h1, h2⟩)
     ·rw [if_neg hn]
      simp only [List.mem_cons, h6]
      constructor
      ·rintro (hx | ⟨b, hb, h1, h2⟩)
       ·exact .inl hx
       ·exact .inr ⟨b, .inr hb, h1, h2⟩
      ·rintro (hx | ⟨b, rfl | hb, h1, h2⟩)
       ·exact .inl hx
       ·exact absurd h1 hn
       ·exact .inr ⟨b, hb, h1, h2⟩
theorem RGo.run : ∀ (k : Nat) (s : RS), RGo I aft nd S s → RGo I aft nd S (rrun I aft nd k s)
 | 0, s, h => h
 | k + 1, s, h => RGo.run k _ h.step
theorem RGo.zero (E : Nat) (es : List Nat) : RGo I aft nd (es ++ [E]) (rs0 E es) := by
 refine ⟨fun a ha => ?_, by simp [rs0], by simp [rs0], fun a ha => ?_, by simp [rs0], fun a => ?_⟩
 ·simp only [rs0, List.mem_cons, List.mem_reverse, List.not_mem_nil, or_false] at ha
  exact Rch.base (by simp only [List.mem_append, List.mem_singleton]; exact ha.symm)
 ·simp only [List.mem_append, List.mem_singleton] at ha
  simp only [rs0, List.mem_cons, List.mem_reverse, List.not_mem_nil, or_false]
  exact ha.symm
 ·simp [rs0]
theorem RGo.all {s : RS} (h : RGo I aft nd S s) (hl : s.left = []) : (∀ a, Rch I aft S a → a ∈ s.seen ∨ a ∈ s.bad) := by
 intro a ha
 induction ha with
 | base ha =>
  rcases h.st _ ha with h1 | h1
  ·rw [hl] at h1; simp at h1
  ·exact h1
 | step _ he hb ih =>
  rcases ih with ih | ih
  ·rcases h.cl _ ih _ hb with h1 | h1
   ·rw [hl] at h1; simp at h1
   ·exact h1
  ·exact absurd he (h.no _ ih)
theorem RGo.seen_iff {s : RS} (h : RGo I aft nd S s) (hl : s.left = []) (a : Nat) : a ∈ s.seen ↔ Rch I aft S a ∧ (I a).2 = 0 :=
 ⟨fun ha => ⟨h.le a (.inr (.inl ha)), h.ok a ha⟩, fun ⟨h1, h2⟩ => (h.all hl a h1).elim id (fun hb => absurd h2 (h.no a hb))⟩
theorem RGo.bad_iff {s : RS} (h : RGo I aft nd S s) (hl : s.left = []) (a : Nat) : a ∈ s.bad ↔ Rch I aft S a ∧ (I a).2 ≠ 0 :=
 ⟨fun ha => ⟨h.le a (.inr (.inr ha)), h.no a ha⟩, fun ⟨h1, h2⟩ => (h.all hl a h1).elim (fun hb => absurd (h.ok a hb) h2) id⟩
end
theorem Rch.mono {I : Nat → Ins × Int} {aft : Ins → Nat → List Nat} {S S' : List Nat} (h : ∀ a ∈ S, a ∈ S') {a : Nat} (ha : Rch I aft S a) : Rch I aft S' a := by
 induction ha with
 | base hb => exact Rch.base (h _ hb)
 | step _ he hb ih => exact Rch.step ih he hb
theorem nodup_len : ∀ (l V : List Nat), l.Nodup → (∀ x ∈ l, x ∈ V) → l.length ≤ V.length
 | [], V, _, _ => Nat.zero_le _
 | x :: l, V, hn, hs => by
  rw [List.nodup_cons] at hn
  have hx : x ∈ V := hs x (by simp)
  have := nodup_len l (V.erase x) hn.2 (fun y hy => (List.mem_erase_of_ne (fun e => hn.1 (by rw [← e]; exact hy))).2 (hs y (by simp [hy])))
  rw [List.length_erase_of_mem hx] at this
  have hp := List.length_pos_of_mem hx
  simp only [List.length_cons]
  omega
theorem rrun_left_nil {I : Nat → Ins × Int} {aft : Ins → Nat → List Nat} {nd : Ins → Bool} : ∀ (k : Nat) (s : RS), s.left = [] → (rrun I aft nd k s).left = []
 | 0, s, h => h
 | k + 1, s, h => rrun_left_nil k _ (by unfold rstep; rw [h]; exact h)
theorem rrun_end {I : Nat → Ins × Int} {aft : Ins → Nat → List Nat} {nd : Ins → Bool} (V : List Nat) (hV : ∀ a, (I a).2 = 0 → a ∈ V) (ha : ∀ x a, (aft x a).length ≤ 2) : ∀ (k : Nat) (s : RS), s.seen.Nodup → (∀ a ∈ s.seen, a ∈ V) → 2 * (V.length - s.seen.length) + s.left.length ≤ k → (rrun I aft nd k s).left = []
 | 0, s, hn, hs, hk => List.eq_nil_of_length_eq_zero (by simp only [rrun]; omega)
 | k + 1, s, hn, hs, hk => by
  show (rrun I aft nd k (rstep I aft nd s)).left = []
  obtain ⟨sl, ss, sd, sb⟩ := s
  simp only at hn hs hk
  cases sl with
  | nil => exact rrun_left_nil k _ rfl
  | cons a l =>
   unfold rstep
   simp only [List.length_cons] at hk ⊢
   split
   ·exact rrun_end V hV ha k _ hn hs (by simp only; omega)
   ·rename_i hsn
    split
    ·exact rrun_end V hV ha k _ hn hs (by simp only; omega)
    ·rename_i he
     have hav := hV a (Classical.not_not.1 he)
     have hn2 : (a :: ss).Nodup := List.nodup_cons.2 ⟨hsn, hn⟩
     have hs2 : ∀ x ∈ a :: ss, x ∈ V := fun x hx => by
      rcases List.mem_cons.1 hx with rfl | hx
      ·exact hav
      ·exact hs x hx
     have hlen := nodup_len (a :: ss) V hn2 hs2
     have h2 := ha (I a).1 a
     refine rrun_end V hV ha k _ hn2 hs2 ?_
     simp only [List.length_cons, List.length_append, List.length_reverse] at hlen ⊢
     omega
theorem insv_valid (dec : Nat → Ins × Int) (base : Nat) (ws : List Nat) (a : Nat) (h : (insv dec base ws a).2 = 0) : ∃ k, k < ws.length ∧ a = base + 4 * k := by
 unfold insv at h
 cases hw : wordv base ws a with
 | none => rw [hw] at h; simp at h
 | some v =>
  unfold wordv at hw
  split at hw
  ·rename_i hc
   exact ⟨(a - base) / 4, (List.getElem?_eq_some_iff.1 hw).1, by omega⟩
  ·cases hw
theorem find_end (dec : Nat → Ins × Int) (aft : Ins → Nat → List Nat) (nd : Ins → Bool) (ha : ∀ x a, (aft x a).length ≤ 2) (base : Nat) (ws : List Nat) (E : Nat) (es : List Nat) (k : Nat) (hk : 2 * ws.length + es.length + 1 ≤ k) : (rrun (insv dec base ws) aft nd k (rs0 E es)).left = [] := by
 refine rrun_end ((List.range ws.length).map (fun i => base + 4 * i)) (fun a h => ?_) ha k _ List.nodup_nil (by simp [rs0]) ?_
 ·obtain ⟨i, hi, rfl⟩ := insv_valid dec base ws a h
  exact List.mem_map.2 ⟨i, List.mem_range.2 hi, rfl⟩
 ·simp only [rs0, List.length_map, List.length_range, List.length_nil, List.length_cons, List.length_reverse]
  omega
def bfoldP (I : Nat → Ins × Int) (nd : Ins → Bool) (lead ks : List Nat) (j : Nat) : List (Nat × Nat) × Bool × Nat := (ks.take j).foldl (bstep I nd lead) ([], false, 0)
theorem bfoldP_step (I : Nat → Ins × Int) (nd : Ins → Bool) (lead ks : List Nat) (j a : Nat) (h : ks[j]? = some a) : bfoldP I nd lead ks (j + 1) = bstep I nd lead (bfoldP I nd lead ks j) a := by
 unfold bfoldP
 rw [List.take_add_one, h, List.foldl_append]
 rfl
def newb (I : Nat → Ins × Int) (nd : Ins → Bool) (lead ks : List Nat) (a : Nat) : Bool := decide (a ∈ lead) || !decide (4 ≤ a ∧ a - 4 ∈ ks) || nd (I (a - 4)).1
theorem list_last {α : Type} (l : List α) (h : l ≠ []) : ∃ m x, l = m ++ [x] := ⟨l.dropLast, l.getLast h, (List.dropLast_concat_getLast h).symm⟩
theorem bump_map (l : List (Nat × Nat)) (h : l ≠ []) : (bump l).map Prod.fst = l.map Prod.fst ∧ ((bump l).map Prod.snd).sum = (l.map Prod.snd).sum + 1 := by
 obtain ⟨m, x, rfl⟩ := list_last l h
 unfold bump
 rw [List.dropLast_concat, List.getLastD_concat]
 simp [Nat.add_assoc]
theorem rise_lt {ks : List Nat} (hs : ks.Pairwise (fun x y => x < y)) (i j : Nat) (hij : i < j) (hj : j < ks.length) : ks[i]'(Nat.lt_trans hij hj) < ks[j] := List.pairwise_iff_getElem.1 hs i j (Nat.lt_trans hij hj) hj hij
theorem bfoldP_facts (I : Nat → Ins × Int) (nd : Ins → Bool) (lead ks : List Nat) (hs : ks.Pairwise (fun x y => x < y)) (h4 : ∀ a ∈ ks, a % 4 = 0 ∧ a + 4 < 4294967296) : ∀ j, j ≤ ks.length →
  (bfoldP I nd lead ks j).1.map Prod.fst = (ks.take j).filter (newb I nd lead ks) ∧ ((bfoldP I nd lead ks j).1.map Prod.snd).sum = j ∧ (j = 0 → (bfoldP I nd lead ks j).2.1 = false) ∧ (∀ i a, j = i + 1 → ks[i]? = some a → (bfoldP I nd lead ks j).2 = (!nd (I a).1, a)) := by
 intro j
 induction j with
 | zero => intro _; exact ⟨rfl, rfl, fun _ => rfl, fun i a h => by omega⟩
 | succ j ih =>
  intro hj
  obtain ⟨i1, i2, i3, i4⟩ := ih (by omega)
  have hjl : j < ks.length := by omega
  have ha : ks[j]? = some ks[j] := List.getElem?_eq_getElem hjl
  obtain ⟨a, hae⟩ : ∃ a, ks[j] = a := ⟨_, rfl⟩
  rw [hae] at ha
  have ham : a ∈ ks := List.mem_of_getElem? ha
  rw [bfoldP_step I nd lead ks j a ha]
  generalize bfoldP I nd lead ks j = z at *
  obtain ⟨bl, op, la⟩ := z
  simp only at i1 i2 i3 i4
  have hc : (op = false ∨ a ∈ lead ∨ a ≠ nextv la) ↔ newb I nd lead ks a = true := by
   unfold newb
   simp only [Bool.or_eq_true, decide_eq_true_eq, Bool.not_eq_true', decide_eq_false_iff_not]
   rcases Nat.eq_zero_or_pos j with h0 | h0
   ·refine ⟨fun _ => .inl (.inr fun ⟨h5, h6⟩ => ?_), fun _ => .inl (i3 h0)⟩
    obtain ⟨q, hq, e⟩ := List.getElem_of_mem h6
    have : j ≤ q := by omega
    rcases Nat.eq_or_lt_of_le this with h7 | h7
    ·subst h7; omega
    ·have := rise_lt hs j q h7 hq; omega
   ·obtain ⟨i, rfl⟩ : ∃ i, j = i + 1 := ⟨j - 1, by omega⟩
    have hil : i < ks.length := by omega
    have hl : ks[i]? = some ks[i] := List.getElem?_eq_getElem hil
    have h5 := i4 i _ rfl hl
    obtain ⟨rfl, rfl⟩ := Prod.mk.inj h5
    have hlt := rise_lt hs i (i + 1) (by omega) hjl
    rw [hae] at hlt
    have hlm : ks[i] ∈ ks := List.getElem_mem hil
    have m1 := h4 _ hlm
    have m2 := h4 _ ham
    have hn : nextv ks[i] = ks[i] + 4 := by unfold nextv; omega
    by_cases h6 : 4 ≤ a ∧ a - 4 ∈ ks
    ·have h7 : ks[i] = a - 4 := by
      obtain ⟨q, hq, e⟩ := List.getElem_of_mem h6.2
      have hqi : q ≤ i := by
       rcases Nat.lt_or_ge i q with h8 | h8
       ·rcases Nat.eq_or_lt_of_le (show i + 1 ≤ q from h8) with h9 | h9
        ·subst h9; omega
        ·have := rise_lt hs (i + 1) q h9 hq; omega
       ·exact h8
      rcases Nat.eq_or_lt_of_le hqi with h8 | h8
      ·subst h8; exact e
      ·have := rise_lt hs q i h8 hil; omega
     rw [hn, h7]
     constructor
     ·rintro (h8 | h8 | h8)
      ·exact .inr (by simpa using h8)
      ·exact .inl (.inl h8)
      ·omega
     ·rintro ((h8 | h8) | h8)
      ·exact .inr (.inl h8)
      ·exact absurd h6 h8
      ·exact .inl (by simp [h8])
    ·refine ⟨fun _ => .inl (.inr h6), fun _ => .inr (.inr fun h8 => h6 ⟨by omega, ?_⟩)⟩
     rw [hn] at h8
     rw [show a - 4 = ks[i] by omega]
     exact hlm
  have htake : ks.take (j + 1) = ks.take j ++ [a] := by rw [List.take_add_one, ha]; rfl
  refine ⟨?_, ?_, fun h => by omega, fun i b hi hb => ?_⟩
  ·show (bump (if op = false ∨ a ∈ lead ∨ a ≠ nextv la then bl ++ [(a, 0)] else bl)).map Prod.fst = _
   rw [htake, List.filter_append, ← i1]
   by_cases h : newb I nd lead ks a = true
   ·rw [if_pos (hc.2 h), (bump_map _ (by simp)).1]
    simp [h]
   ·rw [if_neg (fun h2 => h (hc.1 h2))]
    have hne : bl ≠ [] := fun e => by
     rw [e] at i2
     simp at i2
     exact h (hc.1 (.inl (i3 i2.symm)))
    rw [(bump_map _ hne).1]
    simp [h]
  ·show ((bump (if op = false ∨ a ∈ lead ∨ a ≠ nextv la then bl ++ [(a, 0)] else bl)).map Prod.snd).sum = _
   by_cases h : newb I nd lead ks a = true
   ·rw [if_pos (hc.2 h), (bump_map _ (by simp)).2]
    simp [i2]
   ·rw [if_neg (fun h2 => h (hc.1 h2))]
    have hne : bl ≠ [] := fun e => by
     rw [e] at i2
     simp at i2
     exact h (hc.1 (.inl (i3 i2.symm)))
    rw [(bump_map _ hne).2, i2]
  ·obtain rfl : j = i := by omega
   rw [ha] at hb
   obtain rfl := Option.some.inj hb
   rfl
theorem sortv_rise (l : List Nat) (h : l.Nodup) : (sortv l).Pairwise (fun x y => x < y) := by
 have hn : (sortv l).Nodup := (sortv_perm l).nodup_iff.2 h
 refine (List.pairwise_and_iff.2 ⟨sortv_sorted l, hn⟩).imp ?_
 rintro x y ⟨h1, h2⟩
 omega
theorem sortv_congr (l m : List Nat) (h : l.Perm m) : sortv l = sortv m :=
 List.Perm.eq_of_pairwise (le := fun x y => x ≤ y) (fun a b _ _ h1 h2 => by omega) (sortv_sorted l) (sortv_sorted m) ((sortv_perm l).trans (h.trans (sortv_perm m).symm))
structure FDone (I : Nat → Ins × Int) (aft : Ins → Nat → List Nat) (nd : Ins → Bool) (S : List Nat) (s : RS) : Prop where
 go : RGo I aft nd S s
 fin : s.left = []
 inv : RInv s
theorem FDone.make {I : Nat → Ins × Int} {aft : Ins → Nat → List Nat} {nd : Ins → Bool} {E : Nat} {es : List Nat} {k : Nat} (h : (rrun I aft nd k (rs0 E es)).left = []) (ha : ∀ x a, ∀ b ∈ aft x a, b < 4294967296) (hE : E < 4294967296) (he : ∀ a ∈ es, a < 4294967296) : FDone I aft nd (es ++ [E]) (rrun I aft nd k (rs0 E es)) :=
 ⟨RGo.run k _ (RGo.zero E es), h, RInv.run ha k _ (RInv.zero E es hE he)⟩
def fend (I : Nat → Ins × Int) (nd : Ins → Bool) (s : RS) : List (Nat × Nat) × Int :=
 match sortv s.bad with
 | b :: _ => ([], (I b).2)
 | [] => (((sortv s.seen).foldl (bstep I nd s.lead) ([], false, 0)).1, 0)
section
variable {I : Nat → Ins × Int} {aft : Ins → Nat → List Nat} {nd : Ins → Bool} {S S' : List Nat} {s s' : RS}
theorem bstep_congr (h : ∀ a, a ∈ s.lead ↔ a ∈ s'.lead) : bstep I nd s.lead = bstep I nd s'.lead := by
 funext z a
 unfold bstep
 simp only [h]
theorem FDone.same (h : FDone I aft nd S s) (h' : FDone I aft nd S' s') (hS : ∀ a, a ∈ S ↔ a ∈ S') : fend I nd s = fend I nd s' := by
 have hR : ∀ a, Rch I aft S a ↔ Rch I aft S' a := fun a => ⟨Rch.mono (fun a => (hS a).1), Rch.mono (fun a => (hS a).2)⟩
 have hs : ∀ a, a ∈ s.seen ↔ a ∈ s'.seen := fun a => by rw [h.go.seen_iff h.fin, h'.go.seen_iff h'.fin, hR]
 have hb : ∀ a, a ∈ s.bad ↔ a ∈ s'.bad := fun a => by rw [h.go.bad_iff h.fin, h'.go.bad_iff h'.fin, hR]
 have hl : ∀ a, a ∈ s.lead ↔ a ∈ s'.lead := fun a => by
  rw [h.go.ld, h'.go.ld, hS]
  simp only [hs]
 have e1 : sortv s.bad = sortv s'.bad := sortv_congr _ _ ((List.perm_ext_iff_of_nodup h.inv.b1 h'.inv.b1).2 hb)
 have e2 : sortv s.seen = sortv s'.seen := sortv_congr _ _ ((List.perm_ext_iff_of_nodup h.inv.s1 h'.inv.s1).2 hs)
 unfold fend
 rw [e1, e2, bstep_congr hl]
theorem FDone.err (h : FDone I aft nd S s) : ((fend I nd s).2 = 0 ↔ s.bad = []) ∧ (s.bad ≠ [] → (fend I nd s).1 = []) ∧ (s.bad = [] → fend I nd s = (((sortv s.seen).foldl (bstep I nd s.lead) ([], false, 0)).1, 0)) := by
 unfold fend
 cases hb : sortv s.bad with
 | nil =>
  have h0 : s.bad = [] := by
   have := sortv_length s.bad
   rw [hb] at this
   exact List.eq_nil_of_length_eq_zero this.symm
  exact ⟨⟨fun _ => h0, fun _ => rfl⟩, fun h => absurd h0 h, fun _ => rfl⟩
 | cons b r =>
  have hbm : b ∈ s.bad := (sortv_perm s.bad).mem_iff.1 (by rw [hb]; simp)
  have hne := h.go.no b hbm
  have h0 : s.bad ≠ [] := fun e => by rw [e] at hbm; simp at hbm
  exact ⟨⟨fun h => absurd h hne, fun h => absurd h h0⟩, fun _ => rfl, fun h => absurd h h0⟩
theorem FDone.more (h : FDone I aft nd S s) (h' : FDone I aft nd S' s') (hS : ∀ a ∈ S, a ∈ S') (hb : s'.bad = []) : s.bad = [] ∧ (∀ a ∈ s.seen, a ∈ s'.seen) ∧ (∀ a ∈ s.lead, a ∈ s'.lead) := by
 have hs : ∀ a ∈ s.seen, a ∈ s'.seen := fun a ha => by
  rw [h.go.seen_iff h.fin] at ha
  rw [h'.go.seen_iff h'.fin]
  exact ⟨Rch.mono hS ha.1, ha.2⟩
 refine ⟨?_, hs, fun a ha => ?_⟩
 ·cases hbad : s.bad with
  | nil => rfl
  | cons b r =>
   have hbm : b ∈ s.bad := by rw [hbad]; simp
   rw [h.go.bad_iff h.fin] at hbm
   have : b ∈ s'.bad := (h'.go.bad_iff h'.fin b).2 ⟨Rch.mono hS hbm.1, hbm.2⟩
   rw [hb] at this
   simp at this
 ·rw [h.go.ld] at ha
  rw [h'.go.ld]
  rcases ha with ha | ⟨b, hb1, hb2, hb3⟩
  ·exact .inl (hS a ha)
  ·exact .inr ⟨b, hs b hb1, hb2, hb3⟩
theorem FDone.counts (h : FDone I aft nd S s) (h4 : ∀ a ∈ s.seen, a % 4 = 0 ∧ a + 4 < 4294967296) (hb : s.bad = []) : ((fend I nd s).1.map Prod.snd).sum = s.seen.length ∧ (fend I nd s).1.map Prod.fst = (sortv s.seen).filter (newb I nd s.lead (sortv s.seen)) := by
 have hm : ∀ a ∈ sortv s.seen, a % 4 = 0 ∧ a + 4 < 4294967296 := fun a ha => h4 a ((sortv_perm s.seen).mem_iff.1 ha)
 have hf := bfoldP_facts I nd s.lead (sortv s.seen) (sortv_rise _ h.inv.s1) hm (sortv s.seen).length (Nat.le_refl _)
 have e : bfoldP I nd s.lead (sortv s.seen) (sortv s.seen).length = (sortv s.seen).foldl (bstep I nd s.lead) ([], false, 0) := by
  unfold bfoldP
  rw [List.take_length]
 rw [e, List.take_length] at hf
 rw [h.err.2.2 hb]
 exact ⟨by rw [hf.2.1, sortv_length], hf.1⟩
end
def exb (b : Nat × Nat) : List Nat := (List.range b.2).map (fun i => b.1 + 4 * i)
theorem exb_succ (x n : Nat) : exb (x, n + 1) = exb (x, n) ++ [x + 4 * n] := by
 unfold exb
 rw [List.range_succ, List.map_append]
 rfl
theorem mem_exb {b : Nat × Nat} {a : Nat} : a ∈ exb b ↔ ∃ i, i < b.2 ∧ b.1 + 4 * i = a := by
 unfold exb
 rw [List.mem_map]
 simp only [List.mem_range]
structure BInv (I : Nat → Ins × Int) (nd : Ins → Bool) (ks : List Nat) (z : List (Nat × Nat) × Bool × Nat) (j : Nat) : Prop where
 f : z.1.flatMap exb = ks.take j
 n : ∀ b ∈ z.1, 1 ≤ b.2
 m : ∀ b ∈ z.1, ∀ i, i + 1 < b.2 → nd (I (b.1 + 4 * i)).1 = false
 o : z.2.1 = true → nd (I z.2.2).1 = false ∧ ∃ m x n, z.1 = m ++ [(x, n + 1)] ∧ z.2.2 = x + 4 * n
theorem BInv.step {I : Nat → Ins × Int} {nd : Ins → Bool} {lead ks : List Nat} {z : List (Nat × Nat) × Bool × Nat} {j : Nat} (h : BInv I nd ks z j) (h4 : ∀ a ∈ ks, a % 4 = 0 ∧ a + 4 < 4294967296) (a : Nat) (ha : ks[j]? = some a) : BInv I nd ks (bstep I nd lead z a) (j + 1) := by
 obtain ⟨bl, op, la⟩ := z
 obtain ⟨hf, hn, hm, ho⟩ := h
 dsimp only at hf hn hm ho
 have htake : ks.take (j + 1) = ks.take j ++ [a] := by rw [List.take_add_one, ha]; rfl
 unfold bstep
 dsimp only
 by_cases hc : op = false ∨ a ∈ lead ∨ a ≠ nextv la
 ·rw [if_pos hc]
  have e : bump (bl ++ [(a, 0)]) = bl ++ [(a, 1)] := by
   unfold bump
   rw [List.dropLast_concat, List.getLastD_concat]
  rw [e]
  refine ⟨?_, ?_, ?_, fun h => ⟨by simpa using h, bl, a, 0, rfl, rfl⟩⟩
  ·dsimp only
   rw [List.flatMap_append, hf, htake]
   rfl
  ·intro b hb
   rcases List.mem_append.1 hb with hb | hb
   ·exact hn b hb
   ·rw [List.mem_singleton.1 hb]; exact Nat.le_refl _
  ·intro b hb i hi
   rcases List.mem_append.1 hb with hb | hb
   ·exact hm b hb i hi
   ·rw [List.mem_singleton.1 hb] at hi; dsimp only at hi; omega
 ·rw [if_neg hc]
  simp only [not_or, Decidable.not_not, Bool.not_eq_false] at hc
  obtain ⟨c1, c2, c3⟩ := hc
  obtain ⟨o1, m, x, n, rfl, rfl⟩ := ho c1
  have hla : x + 4 * n ∈ ks := by
   refine List.mem_of_mem_take (i := j) ?_
   rw [← hf, List.mem_flatMap]
   exact ⟨_, List.mem_append_right _ (List.mem_singleton.2 rfl), mem_exb.2 ⟨n, Nat.lt_succ_self _, rfl⟩⟩
  have h5 := h4 _ hla
  have ea : a = x + 4 * (n + 1) := by rw [c3]; unfold nextv; omega
  have e : bump (m ++ [(x, n + 1)]) = m ++ [(x, n + 1 + 1)] := by
   unfold bump
   rw [List.dropLast_concat, List.getLastD_concat]
  rw [e]
  refine ⟨?_, ?_, ?_, fun h => ⟨by simpa using h, m, x, n + 1, rfl, ea⟩⟩
  ·dsimp only
   rw [List.flatMap_append, List.flatMap_singleton] at hf
   rw [List.flatMap_append, List.flatMap_singleton, exb_succ, ← List.append_assoc, hf, htake, ea]
  ·intro b hb
   rcases List.mem_append.1 hb with hb | hb
   ·exact hn b (List.mem_append_left _ hb)
   ·rw [List.mem_singleton.1 hb]; dsimp only; omega
  ·intro b hb i hi
   rcases List.mem_append.1 hb with hb | hb
   ·exact hm b (List.mem_append_left _ hb) i hi
   ·obtain rfl := List.mem_singleton.1 hb
    dsimp only at hi ⊢
    by_cases hin : i = n
    ·subst hin; exact o1
    ·exact hm (x, n + 1) (List.mem_append_right _ (List.mem_singleton.2 rfl)) i (by dsimp only; omega)
theorem BInv.run {I : Nat → Ins × Int} {nd : Ins → Bool} {lead ks : List Nat} (h4 : ∀ a ∈ ks, a % 4 = 0 ∧ a + 4 < 4294967296) : ∀ j, j ≤ ks.length → BInv I nd ks (bfoldP I nd lead ks j) j
 | 0, _ => ⟨by simp [bfoldP], fun b hb => by simp [bfoldP] at hb, fun b hb => by simp [bfoldP] at hb, fun h => by simp [bfoldP] at h⟩
 | j + 1, hj => by
  have ha : ks[j]? = some ks[j] := List.getElem?_eq_getElem (by omega)
  rw [bfoldP_step I nd lead ks j _ ha]
  exact (BInv.run h4 j (by omega)).step h4 _ ha
section
variable {I : Nat → Ins × Int} {aft : Ins → Nat → List Nat} {nd : Ins → Bool} {S : List Nat} {s : RS}
theorem FDone.whole (h : FDone I aft nd S s) (h4 : ∀ a ∈ s.seen, a % 4 = 0 ∧ a + 4 < 4294967296) (hb : s.bad = []) :
  (fend I nd s).1.flatMap exb = sortv s.seen ∧ (∀ b ∈ (fend I nd s).1, 1 ≤ b.2) ∧ (∀ b ∈ (fend I nd s).1, ∀ i, i + 1 < b.2 → nd (I (b.1 + 4 * i)).1 = false) := by
 have hm : ∀ a ∈ sortv s.seen, a % 4 = 0 ∧ a + 4 < 4294967296 := fun a ha => h4 a ((sortv_perm s.seen).mem_iff.1 ha)
 have hf := BInv.run (I := I) (nd := nd) (lead := s.lead) hm (sortv s.seen).length (Nat.le_refl _)
 have e : bfoldP I nd s.lead (sortv s.seen) (sortv s.seen).length = (sortv s.seen).foldl (bstep I nd s.lead) ([], false, 0) := by
  unfold bfoldP
  rw [List.take_length]
 rw [e] at hf
 rw [h.err.2.2 hb]
 exact ⟨by rw [hf.f, List.take_length], hf.n, hf.m⟩
theorem FDone.mem (h : FDone I aft nd S s) (h4 : ∀ a ∈ s.seen, a % 4 = 0 ∧ a + 4 < 4294967296) (hb : s.bad = []) (b : Nat × Nat) (hbm : b ∈ (fend I nd s).1) (i : Nat) (hi : i < b.2) : b.1 + 4 * i ∈ s.seen := by
 refine (sortv_perm s.seen).mem_iff.1 ?_
 rw [← (h.whole h4 hb).1, List.mem_flatMap]
 exact ⟨b, hbm, mem_exb.2 ⟨i, hi, rfl⟩⟩
theorem FDone.apart (h : FDone I aft nd S s) (h4 : ∀ a ∈ s.seen, a % 4 = 0 ∧ a + 4 < 4294967296) (hb : s.bad = []) : (fend I nd s).1.Pairwise (fun b c => b.1 + 4 * b.2 ≤ c.1) := by
 obtain ⟨w1, w2, w3⟩ := h.whole h4 hb
 have hp := sortv_rise _ h.inv.s1
 rw [← w1, List.pairwise_flatMap] at hp
 refine hp.2.imp_of_mem ?_
 intro b c hbm hcm hlt
 have n1 := w2 b hbm
 have n2 := w2 c hcm
 have h1 := hlt (b.1 + 4 * (b.2 - 1)) (mem_exb.2 ⟨_, by omega, rfl⟩) (c.1 + 4 * 0) (mem_exb.2 ⟨0, by omega, rfl⟩)
 have m1 := h4 _ (h.mem h4 hb b hbm (b.2 - 1) (by omega))
 have m2 := h4 _ (h.mem h4 hb c hcm 0 (by omega))
 omega
theorem FDone.begins (h : FDone I aft nd S s) (h4 : ∀ a ∈ s.seen, a % 4 = 0 ∧ a + 4 < 4294967296) (hb : s.bad = []) (a : Nat) (ha : a ∈ s.seen) (hl : a ∈ s.lead) : a ∈ (fend I nd s).1.map Prod.fst := by
 rw [(h.counts h4 hb).2, List.mem_filter]
 refine ⟨(sortv_perm s.seen).mem_iff.2 ha, ?_⟩
 unfold newb
 simp [hl]
theorem FDone.reached (h : FDone I aft nd S s) (hb : s.bad = []) (a : Nat) (ha : Rch I aft S a) : a ∈ s.seen := by
 rcases h.go.all h.fin a ha with h | h
 ·exact h
 ·rw [hb] at h; simp at h
theorem FDone.entry (h : FDone I aft nd S s) (h4 : ∀ a ∈ s.seen, a % 4 = 0 ∧ a + 4 < 4294967296) (hb : s.bad = []) (a : Nat) (ha : a ∈ S) : a ∈ (fend I nd s).1.map Prod.fst :=
 h.begins h4 hb a (h.reached hb a (Rch.base ha)) ((h.go.ld a).2 (.inl ha))
theorem FDone.behind (h : FDone I aft nd S s) (hp : ∀ x a, nd x = false → aft x a = [nextv a]) (h4 : ∀ a ∈ s.seen, a % 4 = 0 ∧ a + 4 < 4294967296) (hb : s.bad = []) (b : Nat × Nat) (hbm : b ∈ (fend I nd s).1) (a : Nat) (hae : a = b.1 + 4 * (b.2 - 1)) (c : Nat) (hc : c ∈ aft (I a).1 a) : c ∈ (fend I nd s).1.map Prod.fst := by
 obtain ⟨w1, w2, w3⟩ := h.whole h4 hb
 have n1 := w2 b hbm
 have has : a ∈ s.seen := hae ▸ h.mem h4 hb b hbm (b.2 - 1) (by omega)
 have har := (h.go.seen_iff h.fin a).1 has
 have hcs : c ∈ s.seen := h.reached hb c (Rch.step har.1 har.2 hc)
 cases hnd : nd (I a).1 with
 | true => exact h.begins h4 hb c hcs ((h.go.ld c).2 (.inr ⟨a, has, hnd, hc⟩))
 | false =>
  rw [hp _ _ hnd, List.mem_singleton] at hc
  have m := h4 a has
  have e : nextv a = a + 4 := by unfold nextv; omega
  rw [e] at hc
  have hcf : c ∈ (fend I nd s).1.flatMap exb := by rw [w1]; exact (sortv_perm s.seen).mem_iff.2 hcs
  obtain ⟨d, hdm, hd⟩ := List.mem_flatMap.1 hcf
  obtain ⟨i, hi, hie⟩ := mem_exb.1 hd
  rcases Nat.eq_zero_or_pos i with h0 | h0
  ·subst h0
   exact List.mem_map.2 ⟨d, hdm, by omega⟩
  ·have hap := h.apart h4 hb
   have : ∀ x ∈ (fend I nd s).1, ∀ y ∈ (fend I nd s).1, x = y ∨ x.1 + 4 * x.2 ≤ y.1 ∨ y.1 + 4 * y.2 ≤ x.1 := by
    intro x hx y hy
    obtain ⟨p, hp1, rfl⟩ := List.getElem_of_mem hx
    obtain ⟨q, hq1, rfl⟩ := List.getElem_of_mem hy
    rcases Nat.lt_trichotomy p q with hpq | hpq | hpq
    ·exact .inr (.inl (List.pairwise_iff_getElem.1 hap p q hp1 hq1 hpq))
    ·subst hpq; exact .inl rfl
    ·exact .inr (.inr (List.pairwise_iff_getElem.1 hap q p hq1 hp1 hpq))
   rcases this b hbm d hdm with hbd | hbd | hbd
   ·subst hbd; omega
   ·omega
   ·omega
end
def addn (l : List Nat) (c : Nat) : List Nat := if c ∈ l then l else l ++ [c]
def addl (l cs : List Nat) : List Nat := cs.foldl addn l
theorem addn_mem (l : List Nat) (c x : Nat) : x ∈ addn l c ↔ x ∈ l ∨ x = c := by
 unfold addn
 split
 ·rename_i h
  exact ⟨.inl, fun h' => h'.elim id (fun e => by rw [e]; exact h)⟩
 ·simp
theorem addn_nodup (l : List Nat) (c : Nat) (h : l.Nodup) : (addn l c).Nodup := by
 unfold addn
 split
 ·exact h
 ·rename_i hc
  rw [List.nodup_append]
  exact ⟨h, by simp, fun a ha b hb e => by
   rw [List.mem_singleton] at hb
   subst hb e
   exact hc ha⟩
theorem addn_pre (l : List Nat) (c : Nat) : ∃ m, addn l c = l ++ m ∧ m.length ≤ 1 := by
 unfold addn
 split
 ·exact ⟨[], by simp, by simp⟩
 ·exact ⟨[c], rfl, by simp⟩
theorem addl_mem : ∀ (cs l : List Nat) (x : Nat), x ∈ addl l cs ↔ x ∈ l ∨ x ∈ cs
 | [], l, x => by simp [addl]
 | c :: cs, l, x => by
  show x ∈ addl (addn l c) cs ↔ _
  rw [addl_mem cs, addn_mem, List.mem_cons, or_assoc]
theorem addl_nodup : ∀ (cs l : List Nat), l.Nodup → (addl l cs).Nodup
 | [], l, h => h
 | c :: cs, l, h => addl_nodup cs (addn l c) (addn_nodup l c h)
theorem addl_pre : ∀ (cs l : List Nat), ∃ m, addl l cs = l ++ m ∧ m.length ≤ cs.length
 | [], l => ⟨[], by simp [addl], by simp⟩
 | c :: cs, l => by
  obtain ⟨m, e, h⟩ := addn_pre l c
  obtain ⟨m', e', h'⟩ := addl_pre cs (addn l c)
  exact ⟨m ++ m', by
   show addl (addn l c) cs = _
   rw [e', e, List.append_assoc], by rw [List.length_append, List.length_cons]; omega⟩
theorem addl_snoc (l cs : List Nat) (c : Nat) : addl l (cs ++ [c]) = addn (addl l cs) c := by
 unfold addl
 rw [List.foldl_append]
 rfl
structure RInvD (I : Nat → Ins × Int) (aft : Ins → Nat → List Nat) (S l : List Nat) (k : Nat) : Prop where
 nd : l.Nodup
 le : ∀ a ∈ l, Rch I aft S a
 st : ∀ a ∈ S, a ∈ l
 cl : ∀ j a, j < k → l[j]? = some a → (I a).2 = 0 → ∀ b ∈ aft (I a).1 a, b ∈ l
section
variable {I : Nat → Ins × Int} {aft : Ins → Nat → List Nat} {nd : Ins → Bool} {S : List Nat}
def rstepD (I : Nat → Ins × Int) (aft : Ins → Nat → List Nat) (l : List Nat) (a : Nat) : List Nat := if (I a).2 ≠ 0 then l else addl l (aft (I a).1 a)
theorem RInvD.step {l : List Nat} {k a : Nat} (h : RInvD I aft S l k) (ha : l[k]? = some a) : RInvD I aft S (rstepD I aft l a) (k + 1) := by
 have hk : k < l.length := (List.getElem?_eq_some_iff.1 ha).1
 have hra : Rch I aft S a := h.le a (List.mem_of_getElem? ha)
 unfold rstepD
 split
 ·rename_i he
  refine ⟨h.nd, h.le, h.st, fun j b hj hb hb0 => ?_⟩
  by_cases hjk : j < k
  ·exact h.cl j b hjk hb hb0
  ·obtain rfl : j = k := by omega
   rw [ha] at hb
   cases hb
   exact absurd hb0 he
 ·rename_i he
  have he0 : (I a).2 = 0 := Classical.not_not.1 he
  refine ⟨addl_nodup _ _ h.nd, fun x hx => ?_, fun x hx => (addl_mem _ _ _).2 (.inl (h.st x hx)), fun j b hj hb hb0 x hx => (addl_mem _ _ _).2 ?_⟩
  ·rcases (addl_mem _ _ _).1 hx with hx | hx
   ·exact h.le x hx
   ·exact Rch.step hra he0 hx
  ·obtain ⟨m, e, _⟩ := addl_pre (aft (I a).1 a) l
   rw [e, List.getElem?_append_left (by omega)] at hb
   by_cases hjk : j < k
   ·exact .inl (h.cl j b hjk hb hb0 x hx)
   ·obtain rfl : j = k := by omega
    rw [ha] at hb
    cases hb
    exact .inr hx
theorem RInvD.all {l : List Nat} (h : RInvD I aft S l l.length) (a : Nat) : a ∈ l ↔ Rch I aft S a := by
 refine ⟨h.le a, fun hr => ?_⟩
 induction hr with
 | base hb => exact h.st _ hb
 | step _ h0 hb ih =>
  obtain ⟨j, hj, e⟩ := List.getElem_of_mem ih
  exact h.cl j _ hj (by rw [List.getElem?_eq_getElem hj, e]) h0 _ hb
theorem RInvD.few {l V : List Nat} {k : Nat} (h : RInvD I aft S l k) (hV : ∀ a, (I a).2 = 0 → a ∈ V) (ha : ∀ x a, (aft x a).length ≤ 2) : l.length ≤ S.length + 2 * V.length := by
 have hsub : ∀ x ∈ l, x ∈ S ++ V.flatMap (fun a => aft (I a).1 a) := fun x hx => by
  rw [List.mem_append]
  cases h.le x hx with
  | base hb => exact .inl hb
  | step hr h0 hb => exact .inr (List.mem_flatMap.2 ⟨_, hV _ h0, hb⟩)
 have h1 := nodup_len l _ h.nd hsub
 have h2 : ∀ V : List Nat, (V.flatMap (fun a => aft (I a).1 a)).length ≤ 2 * V.length := fun V => by
  induction V with
  | nil => simp
  | cons v V ih =>
   rw [List.flatMap_cons, List.length_append, List.length_cons]
   have := ha (I v).1 v
   omega
 have := h2 V
 rw [List.length_append] at h1
 omega
end
structure LeastBad (I : Nat → Ins × Int) (l : List Nat) (bad : Int) (least : Nat) : Prop where
 ok : bad = 0 → ∀ a ∈ l, (I a).2 = 0
 mem : bad ≠ 0 → least ∈ l ∧ (I least).2 = bad
 le : bad ≠ 0 → ∀ a ∈ l, (I a).2 ≠ 0 → least ≤ a
theorem LeastBad.step {I : Nat → Ins × Int} {l : List Nat} {bad : Int} {least a : Nat} (h : LeastBad I l bad least) :
  LeastBad I (l ++ [a]) (if (I a).2 ≠ 0 ∧ (bad = 0 ∨ a < least) then (I a).2 else bad) (if (I a).2 ≠ 0 ∧ (bad = 0 ∨ a < least) then a else least) := by
 by_cases hc : (I a).2 ≠ 0 ∧ (bad = 0 ∨ a < least)
 ·rw [if_pos hc, if_pos hc]
  refine ⟨fun e => absurd e hc.1, fun _ => ⟨by simp, rfl⟩, fun _ x hx hx0 => ?_⟩
  rcases List.mem_append.1 hx with hx | hx
  ·by_cases hb : bad = 0
   ·exact absurd (h.ok hb x hx) hx0
   ·have := h.le hb x hx hx0
    rcases hc.2 with e | e
    ·exact absurd e hb
    ·omega
  ·rw [List.mem_singleton] at hx
   omega
 ·rw [if_neg hc, if_neg hc]
  refine ⟨fun e x hx => ?_, fun e => ⟨by simp [(h.mem e).1], (h.mem e).2⟩, fun e x hx hx0 => ?_⟩
  ·rcases List.mem_append.1 hx with hx | hx
   ·exact h.ok e x hx
   ·rw [List.mem_singleton] at hx
    subst hx
    exact Classical.byContradiction fun hn => hc ⟨hn, .inl e⟩
  ·rcases List.mem_append.1 hx with hx | hx
   ·exact h.le e x hx hx0
   ·rw [List.mem_singleton] at hx
    subst hx
    exact Classical.byContradiction fun hn => hc ⟨hx0, .inr (by omega)⟩
theorem sortv_nil_iff (l : List Nat) : sortv l = [] ↔ l = [] := by
 constructor
 ·intro h
  have := sortv_length l
  rw [h] at this
  exact List.length_eq_zero_iff.1 this.symm
 ·rintro rfl
  rfl
theorem LeastBad.end {I : Nat → Ins × Int} {aft : Ins → Nat → List Nat} {nd : Ins → Bool} {S l : List Nat} {bad : Int} {least : Nat} {s : RS} (h : LeastBad I l bad least) (hd : FDone I aft nd S s) (hl : ∀ a, a ∈ l ↔ Rch I aft S a) : (fend I nd s).2 = bad ∧ (bad = 0 ↔ s.bad = []) := by
 have hbi : ∀ a, a ∈ s.bad ↔ a ∈ l ∧ (I a).2 ≠ 0 := fun a => by rw [hl]; exact hd.go.bad_iff hd.fin a
 by_cases hb : bad = 0
 ·have e : s.bad = [] := List.eq_nil_iff_forall_not_mem.2 fun a ha => ((hbi a).1 ha).2 (h.ok hb a ((hbi a).1 ha).1)
  refine ⟨?_, ⟨fun _ => e, fun _ => hb⟩⟩
  unfold fend
  rw [e, hb]
  rfl
 ·have hm := (hbi least).2 ⟨(h.mem hb).1, by rw [(h.mem hb).2]; exact hb⟩
  have hne : s.bad ≠ [] := fun e => by rw [e] at hm; cases hm
  refine ⟨?_, ⟨fun e => absurd e hb, fun e => absurd e hne⟩⟩
  unfold fend
  cases hs : sortv s.bad with
  | nil => exact absurd ((sortv_nil_iff _).1 hs) hne
  | cons b t =>
   have hsort := sortv_sorted s.bad
   have hperm := sortv_perm s.bad
   rw [hs] at hsort hperm
   have hbm : b ∈ s.bad := hperm.mem_iff.1 (by simp)
   have h1 : least ≤ b := h.le hb b ((hbi b).1 hbm).1 ((hbi b).1 hbm).2
   have h2 : b ≤ least := by
    rcases List.mem_cons.1 (hperm.mem_iff.2 hm) with e | hm'
    ·omega
    ·exact (List.pairwise_cons.1 hsort).1 least hm'
   obtain rfl : b = least := by omega
   exact (h.mem hb).2
theorem rise_eq : ∀ (l m : List Nat), l.Pairwise (fun x y => x < y) → m.Pairwise (fun x y => x < y) → (∀ a, a ∈ l ↔ a ∈ m) → l = m
 | [], [], _, _, _ => rfl
 | [], y :: m, _, _, h => by have := (h y).2 (by simp); cases this
 | x :: l, [], _, _, h => by have := (h x).1 (by simp); cases this
 | x :: l, y :: m, hl, hm, h => by
  have hl' := List.pairwise_cons.1 hl
  have hm' := List.pairwise_cons.1 hm
  have e : x = y := by
   rcases List.mem_cons.1 ((h x).1 (by simp)) with e | hx
   ·exact e
   ·rcases List.mem_cons.1 ((h y).2 (by simp)) with e | hy
    ·exact e.symm
    ·have := hm'.1 x hx
     have := hl'.1 y hy
     omega
  subst e
  rw [rise_eq l m hl'.2 hm'.2 fun a => ⟨fun ha => ?_, fun ha => ?_⟩]
  ·have h1 := hl'.1 a ha
   rcases List.mem_cons.1 ((h a).1 (by simp [ha])) with e | h2
   ·omega
   ·exact h2
  ·have h1 := hm'.1 a ha
   rcases List.mem_cons.1 ((h a).2 (by simp [ha])) with e | h2
   ·omega
   ·exact h2
def ksOf (B : Nat) (R : List Nat) (n : Nat) : List Nat := ((List.range n).map (fun i => B + 4 * i)).filter (fun a => decide (a ∈ R))
theorem ksOf_succ (B : Nat) (R : List Nat) (n : Nat) : ksOf B R (n + 1) = ksOf B R n ++ (if B + 4 * n ∈ R then [B + 4 * n] else []) := by
 unfold ksOf
 rw [List.range_succ, List.map_append, List.filter_append]
 congr 1
 by_cases h : B + 4 * n ∈ R
 ·simp [h]
 ·simp [h]
theorem ksOf_rise (B : Nat) (R : List Nat) (n : Nat) : (ksOf B R n).Pairwise (fun x y => x < y) := by
 refine List.Pairwise.filter _ ?_
 rw [List.pairwise_map]
 exact List.Pairwise.imp (fun {a b} h => by omega) List.pairwise_lt_range
theorem ksOf_mem (B : Nat) (R : List Nat) (n a : Nat) : a ∈ ksOf B R n ↔ a ∈ R ∧ ∃ i, i < n ∧ a = B + 4 * i := by
 unfold ksOf
 rw [List.mem_filter, List.mem_map]
 simp only [List.mem_range, decide_eq_true_eq]
 exact ⟨fun ⟨⟨i, hi, e⟩, h⟩ => ⟨h, i, hi, e.symm⟩, fun ⟨h, i, hi, e⟩ => ⟨⟨i, hi, e.symm⟩, h⟩⟩
def bstepD (I : Nat → Ins × Int) (nd : Ins → Bool) (B : Nat) (R lead : List Nat) (out : List (Nat × Nat)) (w : Nat) : List (Nat × Nat) :=
 if B + 4 * w ∈ R then bump (if w = 0 ∨ ¬ (B + 4 * w - 4 ∈ R) ∨ nd (I (B + 4 * w - 4)).1 = true ∨ B + 4 * w ∈ lead then out ++ [(B + 4 * w, 0)] else out) else out
def boutD (I : Nat → Ins × Int) (nd : Ins → Bool) (B : Nat) (R lead : List Nat) : Nat → List (Nat × Nat)
 | 0 => []
 | w + 1 => bstepD I nd B R lead (boutD I nd B R lead w) w
theorem boutD_eq (I : Nat → Ins × Int) (nd : Ins → Bool) (B : Nat) (R lead : List Nat) (hB : B < 4294963201) : ∀ n, n ≤ 1000 →
  boutD I nd B R lead n = ((ksOf B R n).foldl (bstep I nd lead) ([], false, 0)).1 ∧ (ksOf B R n = [] → ((ksOf B R n).foldl (bstep I nd lead) ([], false, 0)).2.1 = false) ∧ (∀ m p, ksOf B R n = m ++ [p] → ((ksOf B R n).foldl (bstep I nd lead) ([], false, 0)).2 = (!nd (I p).1, p)) := by
 intro n
 induction n with
 | zero => intro _; exact ⟨rfl, fun _ => rfl, fun m p h => by
   have := congrArg List.length h
   simp [ksOf] at this⟩
 | succ n ih =>
  intro hn
  obtain ⟨i1, i2, i3⟩ := ih (by omega)
  show bstepD I nd B R lead (boutD I nd B R lead n) n = _ ∧ _
  unfold bstepD
  rw [ksOf_succ]
  by_cases hm : B + 4 * n ∈ R
  ·rw [if_pos hm, if_pos hm, List.foldl_append]
   have hrise := ksOf_rise B R n
   have hmem := ksOf_mem B R n
   generalize ksOf B R n = ks at *
   show _ = (bstep I nd lead (ks.foldl (bstep I nd lead) ([], false, 0)) (B + 4 * n)).1 ∧ _ ∧ _
   generalize ks.foldl (bstep I nd lead) ([], false, 0) = z at *
   refine ⟨?_, fun h => by simp at h, fun m p h => ?_⟩
   ·show _ = bump _
    rw [i1]
    have hiff : (n = 0 ∨ ¬ (B + 4 * n - 4 ∈ R) ∨ nd (I (B + 4 * n - 4)).1 = true ∨ B + 4 * n ∈ lead) ↔ (z.2.1 = false ∨ B + 4 * n ∈ lead ∨ B + 4 * n ≠ nextv z.2.2) := by
     by_cases hk : ks = []
     ·have e1 := i2 hk
      refine ⟨fun _ => .inl e1, fun _ => ?_⟩
      by_cases h0 : n = 0
      ·exact .inl h0
      ·refine .inr (.inl fun hp => ?_)
       have := (hmem (B + 4 * n - 4)).2 ⟨hp, n - 1, by omega, by omega⟩
       rw [hk] at this
       cases this
     ·obtain ⟨m, p, hp⟩ := list_last ks hk
      have e1 := i3 m p hp
      rw [e1]
      obtain ⟨hpR, i, hi, hpi⟩ := (hmem p).1 (by rw [hp]; simp)
      have hlast : ∀ a ∈ ks, a ≤ p := fun a ha => by
       rw [hp] at ha hrise
       rcases List.mem_append.1 ha with ha | ha
       ·have := (List.pairwise_append.1 hrise).2.2 a ha p (by simp)
        omega
       ·rw [List.mem_singleton] at ha
        omega
      by_cases hq : B + 4 * n - 4 ∈ R
      ·have hqk := (hmem (B + 4 * n - 4)).2 ⟨hq, n - 1, by omega, by omega⟩
       have h1 := hlast _ hqk
       have h2 : p = B + 4 * n - 4 := by omega
       have h3 : nextv p = B + 4 * n := by unfold nextv; omega
       rw [← h2]
       simp only [h3, Bool.not_eq_false']
       constructor
       ·rintro (h | h | h | h)
        ·omega
        ·exact absurd (by rw [h2]; exact hq) h
        ·exact .inl h
        ·exact .inr (.inl h)
       ·rintro (h | h | h)
        ·exact .inr (.inr (.inl h))
        ·exact .inr (.inr (.inr h))
        ·exact absurd rfl h
      ·refine ⟨fun _ => .inr (.inr fun e => hq ?_), fun _ => .inr (.inl hq)⟩
       have h3 : nextv p = p + 4 := by unfold nextv; omega
       dsimp only at e
       rw [h3] at e
       rw [show B + 4 * n - 4 = p by omega]
       exact hpR
    simp only [hiff]
   ·have := List.append_inj_right' h rfl
    simp only [List.cons.injEq, and_true] at this
    subst this
    rfl
  ·rw [if_neg hm, if_neg hm, List.append_nil]
   exact ⟨i1, i2, i3⟩
theorem FDone.outD {I : Nat → Ins × Int} {aft : Ins → Nat → List Nat} {nd : Ins → Bool} {S R lead : List Nat} {s : RS} (h : FDone I aft nd S s) (B n : Nat) (hB : B < 4294963201) (hn : n ≤ 1000) (hV : ∀ a, (I a).2 = 0 → ∃ i, i < n ∧ a = B + 4 * i) (hR : ∀ a, a ∈ R ↔ Rch I aft S a) (hb : s.bad = []) (hl : ∀ a, a ∈ lead ↔ a ∈ s.lead) :
  fend I nd s = (boutD I nd B R lead n, 0) := by
 have hsi : ∀ a, a ∈ s.seen ↔ a ∈ R := fun a => by
  rw [h.go.seen_iff h.fin a, hR]
  refine ⟨fun h => h.1, fun hr => ⟨hr, ?_⟩⟩
  rcases h.go.all h.fin a hr with h1 | h1
  ·exact h.go.ok a h1
  ·rw [hb] at h1
   cases h1
 have e : sortv s.seen = ksOf B R n := rise_eq _ _ (sortv_rise _ h.inv.s1) (ksOf_rise B R n) fun a => by
  rw [(sortv_perm _).mem_iff, hsi, ksOf_mem]
  exact ⟨fun ha => ⟨ha, hV a (h.go.ok a ((hsi a).2 ha))⟩, fun ha => ha.1⟩
 have el : bstep I nd s.lead = bstep I nd lead := by
  funext z a
  unfold bstep
  simp only [hl]
 rw [h.err.2.2 hb, e, el, (boutD_eq I nd B R lead hB n hn).1]
end Go.Proofs.Ytekenddkoahjgaa.Bl
