import Derived.Test.YtekenddkoahjgaaTBE
import Derived.WalkKit
import Derived.KernelRfl
import Derived.Below
import Derived.Outline
import Derived.LoopTactic
import Derived.Maps.Own
import Derived.Maps.OwnOps
import Derived.Maps.OwnSet
import Derived.Maps.Views
import Derived.Maps.AppendAt
import Derived.Laws.BitsLemmas
import Derived.Laws.BitsAllLaws
import Derived.Deep.LoopGhost
import Derived.Lib.Hide
import Derived.Deep.QuietTactic
import Derived.BigQuiet
import Derived.Deep.Draws
import Derived.Laws.StructEq
import Derived.Deep.Slices
import Derived.Deep.Fields
import Derived.ChangeSame
import Derived.Deep.CutBlock
import Derived.Deep.DeepCutAuto
import Derived.Deep.RegionHeld3
import Derived.StillTailTactics
import Derived.WalkSmall
import Derived.OwnWalk
import Derived.Laws.OwnMore
import Derived.Laws.BytesArg
import Derived.Laws.MakeOwn
import Derived.Laws.Tables
import Derived.Laws.Rows
import Derived.Laws.World
import Derived.Lib.SliceRun
/- Layer 8, walked: what is reached, and its blocks. -/
namespace Go.Proofs.Ytekenddkoahjgaa.Bl
open Go.RowKit Go.Maps Go.Proofs
set_option maxRecDepth 100000
set_option linter.unusedVariables false
set_option linter.unusedSimpArgs false
inductive Rch (I : Nat → Ins × Int) (aft : Ins → Nat → List Nat) (S : List Nat) : Nat → Prop
 | base {a : Nat} : a ∈ S → Rch I aft S a
 | step {a b : Nat} : Rch I aft S a → (I a).2 = 0 → b ∈ aft (I a).1 a → Rch I aft S b
structure RGo (I : Nat → Ins × Int) (aft : Ins → Nat → List Nat) (nd : Ins → Bool) (S : List Nat) (s : RS) : Prop where
 le : ∀ a, a ∈ s.left ∨ a ∈ s.seen ∨ a ∈ s.bad → Rch I aft S a
 ok : ∀ a ∈ s.seen, (I a).2 = 0
 no : ∀ a ∈ s.bad, (I a).2 ≠ 0
 st : ∀ a ∈ S, a ∈ s.left ∨ a ∈ s.seen ∨ a ∈ s.bad
 cl : ∀ a ∈ s.seen, ∀ b ∈ aft (I a).1 a, b ∈ s.left ∨ b ∈ s.seen ∨ b ∈ s.bad
 ld : ∀ a, a ∈ s.lead ↔ a ∈ S ∨ ∃ b ∈ s.seen, nd (I b).1 = true ∧ a ∈ aft (I b).1 b
section
variable {I : Nat → Ins × Int} {aft : Ins → Nat → List Nat} {nd : Ins → Bool} {S : List Nat}
theorem RGo.step {s : RS} (h : RGo I aft nd S s) : RGo I aft nd S (rstep I aft nd s) := by
 obtain ⟨sl, ss, sd, sb⟩ := s
 obtain ⟨h1, h2, h3, h4, h5, h6⟩ := h
 simp only at h1 h2 h3 h4 h5 h6
 cases sl with
 | nil => exact ⟨h1, h2, h3, h4, h5, h6⟩
 | cons a l =>
  unfold rstep
  simp only
  have hra : Rch I aft S a := h1 a (.inl (by simp))
  have mv : ∀ {x : Nat} {q : Prop}, (x ∈ a :: l ∨ q) → (x = a → x ∈ l ∨ q) → x ∈ l ∨ q := fun {x q} hx ha => by
   rcases hx with hx | hx
   ·rcases List.mem_cons.1 hx with e | hx
    ·exact ha e
    ·exact .inl hx
   ·exact .inr hx
  split
  ·rename_i hs
   refine ⟨fun x hx => h1 x ?_, h2, h3, fun x hx => mv (h4 x hx) (fun e => .inr (.inl (by rw [e]; exact hs))), fun x hx b hb => mv (h5 x hx b hb) (fun e => .inr (.inl (by rw [e]; exact hs))), h6⟩
   rcases hx with hx | hx
   ·exact .inl (by simp only at hx; simp [hx])
   ·exact .inr hx
  ·rename_i hs
   split
   ·rename_i he
    have hsub : ∀ x, x ∈ (if a ∈ sb then sb else a :: sb) ↔ x = a ∨ x ∈ sb := fun x => by
     split
     ·rename_i hab
      exact ⟨.inr, fun h => h.elim (fun e => by rw [e]; exact hab) id⟩
     ·simp
    refine ⟨fun x hx => ?_, h2, fun x hx => ?_, fun x hx => ?_, fun x hx b hb => ?_, h6⟩
    ·simp only at hx
     rw [hsub] at hx
     rcases hx with hx | hx | rfl | hx
     ·exact h1 x (.inl (by simp [hx]))
     ·exact h1 x (.inr (.inl hx))
     ·exact hra
     ·exact h1 x (.inr (.inr hx))
    ·simp only at hx
     rw [hsub] at hx
     rcases hx with rfl | hx
     ·exact he
     ·exact h3 x hx
    ·simp only [hsub]
     refine mv (q := x ∈ ss ∨ x = a ∨ x ∈ sb) ?_ (fun e => .inr (.inr (.inl e)))
     rcases h4 x hx with h | h | h
     ·exact .inl h
     ·exact .inr (.inl h)
     ·exact .inr (.inr (.inr h))
    ·simp only [hsub]
     refine mv (q := b ∈ ss ∨ b = a ∨ b ∈ sb) ?_ (fun e => .inr (.inr (.inl e)))
     rcases h5 x hx b hb with h | h | h
     ·exact .inl h
     ·exact .inr (.inl h)
     ·exact .inr (.inr (.inr h))
   ·rename_i he
    have he0 : (I a).2 = 0 := Classical.not_not.1 he
    refine ⟨fun x hx => ?_, fun x hx => ?_, h3, fun x hx => ?_, fun x hx b hb => ?_, fun x => ?_⟩
    ·simp only [List.mem_append, List.mem_reverse, List.mem_cons] at hx
     rcases hx with (hx | hx) | (rfl | hx) | hx
     ·exact Rch.step hra he0 hx
     ·exact h1 x (.inl (by simp [hx]))
     ·exact hra
     ·exact h1 x (.inr (.inl hx))
     ·exact h1 x (.inr (.inr hx))
    ·rcases List.mem_cons.1 hx with rfl | hx
     ·exact he0
     ·exact h2 x hx
    ·simp only [List.mem_append, List.mem_reverse, List.mem_cons]
     rcases h4 x hx with h | h | h
     ·rcases List.mem_cons.1 h with e | h
      ·exact .inr (.inl (.inl e))
      ·exact .inl (.inr h)
     ·exact .inr (.inl (.inr h))
     ·exact .inr (.inr h)
    ·simp only [List.mem_append, List.mem_reverse, List.mem_cons]
     rcases List.mem_cons.1 hx with rfl | hx
     ·exact .inl (.inl hb)
     ·rcases h5 x hx b hb with h | h | h
      ·rcases List.mem_cons.1 h with e | h
       ·exact .inr (.inl (.inl e))
       ·exact .inl (.inr h)
      ·exact .inr (.inl (.inr h))
      ·exact .inr (.inr h)
    ·simp only
     by_cases hn : nd (I a).1 = true
     ·rw [if_pos hn]
      simp only [List.mem_append, List.mem_reverse, List.mem_cons, h6]
      constructor
      ·rintro (hx | hx | ⟨b, hb, h1, h2⟩)
       ·exact .inr ⟨a, .inl rfl, hn, hx⟩
       ·exact .inl hx
       ·exact .inr ⟨b, .inr hb, h1, h2⟩
      ·rintro (hx | ⟨b, rfl | hb, h1, h2⟩)
       ·exact .inr (.inl hx)
       ·exact .inl h2
       ·exact .inr (.inr ⟨b, hb, h1, h2⟩)
     ·rw [if_neg hn]
      simp only [List.mem_cons, h6]
      constructor
      ·rintro (hx | ⟨b, hb, h1, h2⟩)
       ·exact .inl hx
       ·exact .inr ⟨b, .inr hb, h1, h2⟩
      ·rintro (hx | ⟨b, rfl | hb, h1, h2⟩)
       ·exact .inl hx
       ·exact absurd h1 hn
       ·exact .inr ⟨b, hb, h1, h2⟩
theorem RGo.run : ∀ (k : Nat) (s : RS), RGo I aft nd S s → RGo I aft nd S (rrun I aft nd k s)
 | 0, s, h => h
 | k + 1, s, h => RGo.run k _ h.step
theorem RGo.zero (E : Nat) (es : List Nat) : RGo I aft nd (es ++ [E]) (rs0 E es) := by
 refine ⟨fun a ha => ?_, by simp [rs0], by simp [rs0], fun a ha => ?_, by simp [rs0], fun a => ?_⟩
 ·simp only [rs0, List.mem_cons, List.mem_reverse, List.not_mem_nil, or_false] at ha
  exact Rch.base (by simp only [List.mem_append, List.mem_singleton]; exact ha.symm)
 ·simp only [List.mem_append, List.mem_singleton] at ha
  simp only [rs0, List.mem_cons, List.mem_reverse, List.not_mem_nil, or_false]
  exact ha.symm
 ·simp [rs0]
theorem RGo.all {s : RS} (h : RGo I aft nd S s) (hl : s.left = []) : (∀ a, Rch I aft S a → a ∈ s.seen ∨ a ∈ s.bad) := by
 intro a ha
 induction ha with
 | base ha =>
  rcases h.st _ ha with h1 | h1
  ·rw [hl] at h1; simp at h1
  ·exact h1
 | step _ he hb ih =>
  rcases ih with ih | ih
  ·rcases h.cl _ ih _ hb with h1 | h1
   ·rw [hl] at h1; simp at h1
   ·exact h1
  ·exact absurd he (h.no _ ih)
theorem RGo.seen_iff {s : RS} (h : RGo I aft nd S s) (hl : s.left = []) (a : Nat) : a ∈ s.seen ↔ Rch I aft S a ∧ (I a).2 = 0 :=
 ⟨fun ha => ⟨h.le a (.inr (.inl ha)), h.ok a ha⟩, fun ⟨h1, h2⟩ => (h.all hl a h1).elim id (fun hb => absurd h2 (h.no a hb))⟩
theorem RGo.bad_iff {s : RS} (h : RGo I aft nd S s) (hl : s.left = []) (a : Nat) : a ∈ s.bad ↔ Rch I aft S a ∧ (I a).2 ≠ 0 :=
 ⟨fun ha => ⟨h.le a (.inr (.inr ha)), h.no a ha⟩, fun ⟨h1, h2⟩ => (h.all hl a h1).elim (fun hb => absurd (h.ok a hb) h2) id⟩
end
theorem Rch.mono {I : Nat → Ins × Int} {aft : Ins → Nat → List Nat} {S S' : List Nat} (h : ∀ a ∈ S, a ∈ S') {a : Nat} (ha : Rch I aft S a) : Rch I aft S' a := by
 induction ha with
 | base hb => exact Rch.base (h _ hb)
 | step _ he hb ih => exact Rch.step ih he hb
theorem nodup_len : ∀ (l V : List Nat), l.Nodup → (∀ x ∈ l, x ∈ V) → l.length ≤ V.length
 | [], V, _, _ => Nat.zero_le _
 | x :: l, V, hn, hs => by
  rw [List.nodup_cons] at hn
  have hx : x ∈ V := hs x (by simp)
  have := nodup_len l (V.erase x) hn.2 (fun y hy => (List.mem_erase_of_ne (fun e => hn.1 (by rw [← e]; exact hy))).2 (hs y (by simp [hy])))
  rw [List.length_erase_of_mem hx] at this
  have hp := List.length_pos_of_mem hx
  simp only [List.length_cons]
  omega
theorem rrun_left_nil {I : Nat → Ins × Int} {aft : Ins → Nat → List Nat} {nd : Ins → Bool} : ∀ (k : Nat) (s : RS), s.left = [] → (rrun I aft nd k s).left = []
 | 0, s, h => h
 | k + 1, s, h => rrun_left_nil k _ (by unfold rstep; rw [h]; exact h)
theorem rrun_end {I : Nat → Ins × Int} {aft : Ins → Nat → List Nat} {nd : Ins → Bool} (V : List Nat) (hV : ∀ a, (I a).2 = 0 → a ∈ V) (ha : ∀ x a, (aft x a).length ≤ 2) : ∀ (k : Nat) (s : RS), s.seen.Nodup → (∀ a ∈ s.seen, a ∈ V) → 2 * (V.length - s.seen.length) + s.left.length ≤ k → (rrun I aft nd k s).left = []
 | 0, s, hn, hs, hk => List.eq_nil_of_length_eq_zero (by simp only [rrun]; omega)
 | k + 1, s, hn, hs, hk => by
  show (rrun I aft nd k (rstep I aft nd s)).left = []
  obtain ⟨sl, ss, sd, sb⟩ := s
  simp only at hn hs hk
  cases sl with
  | nil => exact rrun_left_nil k _ rfl
  | cons a l =>
   unfold rstep
   simp only [List.length_cons] at hk ⊢
   split
   ·exact rrun_end V hV ha k _ hn hs (by simp only; omega)
   ·rename_i hsn
    split
    ·exact rrun_end V hV ha k _ hn hs (by simp only; omega)
    ·rename_i he
     have hav := hV a (Classical.not_not.1 he)
     have hn2 : (a :: ss).Nodup := List.nodup_cons.2 ⟨hsn, hn⟩
     have hs2 : ∀ x ∈ a :: ss, x ∈ V := fun x hx => by
      rcases List.mem_cons.1 hx with rfl | hx
      ·exact hav
      ·exact hs x hx
     have hlen := nodup_len (a :: ss) V hn2 hs2
     have h2 := ha (I a).1 a
     refine rrun_end V hV ha k _ hn2 hs2 ?_
     simp only [List.length_cons, List.length_append, List.length_reverse] at hlen ⊢
     omega
theorem insv_valid (dec : Nat → Ins × Int) (base : Nat) (ws : List Nat) (a : Nat) (h : (insv dec base ws a).2 = 0) : ∃ k, k < ws.length ∧ a = base + 4 * k := by
 unfold insv at h
 cases hw : wordv base ws a with
 | none => rw [hw] at h; simp at h
 | some v =>
  unfold wordv at hw
  split at hw
  ·rename_i hc
   exact ⟨(a - base) / 4, (List.getElem?_eq_some_iff.1 hw).1, by omega⟩
  ·cases hw
theorem find_end (dec : Nat → Ins × Int) (aft : Ins → Nat → List Nat) (nd : Ins → Bool) (ha : ∀ x a, (aft x a).length ≤ 2) (base : Nat) (ws : List Nat) (E : Nat) (es : List Nat) (k : Nat) (hk : 2 * ws.length + es.length + 1 ≤ k) : (rrun (insv dec base ws) aft nd k (rs0 E es)).left = [] := by
 refine rrun_end ((List.range ws.length).map (fun i => base + 4 * i)) (fun a h => ?_) ha k _ List.nodup_nil (by simp [rs0]) ?_
 ·obtain ⟨i, hi, rfl⟩ := insv_valid dec base ws a h
  exact List.mem_map.2 ⟨i, List.mem_range.2 hi, rfl⟩
 ·simp only [rs0, List.length_map, List.length_range, List.length_nil, List.length_cons, List.length_reverse]
  omega
def bfoldP (I : Nat → Ins × Int) (nd : Ins → Bool) (lead ks : List Nat) (j : Nat) : List (Nat × Nat) × Bool × Nat := (ks.take j).foldl (bstep I nd lead) ([], false, 0)
theorem bfoldP_step (I : Nat → Ins × Int) (nd : Ins → Bool) (lead ks : List Nat) (j a : Nat) (h : ks[j]? = some a) : bfoldP I nd lead ks (j + 1) = bstep I nd lead (bfoldP I nd lead ks j) a := by
 unfold bfoldP
 rw [List.take_add_one, h, List.foldl_append]
 rfl
def newb (I : Nat → Ins × Int) (nd : Ins → Bool) (lead ks : List Nat) (a : Nat) : Bool := decide (a ∈ lead) || !decide (4 ≤ a ∧ a - 4 ∈ ks) || nd (I (a - 4)).1
theorem list_last {α : Type} (l : List α) (h : l ≠ []) : ∃ m x, l = m ++ [x] := ⟨l.dropLast, l.getLast h, (List.dropLast_concat_getLast h).symm⟩
theorem bump_map (l : List (Nat × Nat)) (h : l ≠ []) : (bump l).map Prod.fst = l.map Prod.fst ∧ ((bump l).map Prod.snd).sum = (l.map Prod.snd).sum + 1 := by
 obtain ⟨m, x, rfl⟩ := list_last l h
 unfold bump
 rw [List.dropLast_concat, List.getLastD_concat]
 simp [Nat.add_assoc]
theorem rise_lt {ks : List Nat} (hs : ks.Pairwise (fun x y => x < y)) (i j : Nat) (hij : i < j) (hj : j < ks.length) : ks[i]'(Nat.lt_trans hij hj) < ks[j] := List.pairwise_iff_getElem.1 hs i j (Nat.lt_trans hij hj) hj hij
theorem bfoldP_facts (I : Nat → Ins × Int) (nd : Ins → Bool) (lead ks : List Nat) (hs : ks.Pairwise (fun x y => x < y)) (h4 : ∀ a ∈ ks, a % 4 = 0 ∧ a + 4 < 4294967296) : ∀ j, j ≤ ks.length →
  (bfoldP I nd lead ks j).1.map Prod.fst = (ks.take j).filter (newb I nd lead ks) ∧ ((bfoldP I nd lead ks j).1.map Prod.snd).sum = j ∧ (j = 0 → (bfoldP I nd lead ks j).2.1 = false) ∧ (∀ i a, j = i + 1 → ks[i]? = some a → (bfoldP I nd lead ks j).2 = (!nd (I a).1, a)) := by
 intro j
 induction j with
 | zero => intro _; exact ⟨rfl, rfl, fun _ => rfl, fun i a h => by omega⟩
 | succ j ih =>
  intro hj
  obtain ⟨i1, i2, i3, i4⟩ := ih (by omega)
  have hjl : j < ks.length := by omega
  have ha : ks[j]? = some ks[j] := List.getElem?_eq_getElem hjl
  obtain ⟨a, hae⟩ : ∃ a, ks[j] = a := ⟨_, rfl⟩
  rw [hae] at ha
  have ham : a ∈ ks := List.mem_of_getElem? ha
  rw [bfoldP_step I nd lead ks j a ha]
  generalize bfoldP I nd lead ks j = z at *
  obtain ⟨bl, op, la⟩ := z
  simp only at i1 i2 i3 i4
  have hc : (op = false ∨ a ∈ lead ∨ a ≠ nextv la) ↔ newb I nd lead ks a = true := by
   unfold newb
   simp only [Bool.or_eq_true, decide_eq_true_eq, Bool.not_eq_true', decide_eq_false_iff_not]
   rcases Nat.eq_zero_or_pos j with h0 | h0
   ·refine ⟨fun _ => .inl (.inr fun ⟨h5, h6⟩ => ?_), fun _ => .inl (i3 h0)⟩
    obtain ⟨q, hq, e⟩ := List.getElem_of_mem h6
    have : j ≤ q := by omega
    rcases Nat.eq_or_lt_of_le this with h7 | h7
    ·subst h7; omega
    ·have := rise_lt hs j q h7 hq; omega
   ·obtain ⟨i, rfl⟩ : ∃ i, j = i + 1 := ⟨j - 1, by omega⟩
    have hil : i < ks.length := by omega
    have hl : ks[i]? = some ks[i] := List.getElem?_eq_getElem hil
    have h5 := i4 i _ rfl hl
    obtain ⟨rfl, rfl⟩ := Prod.mk.inj h5
    have hlt := rise_lt hs i (i + 1) (by omega) hjl
    rw [hae] at hlt
    have hlm : ks[i] ∈ ks := List.getElem_mem hil
    have m1 := h4 _ hlm
    have m2 := h4 _ ham
    have hn : nextv ks[i] = ks[i] + 4 := by unfold nextv; omega
    by_cases h6 : 4 ≤ a ∧ a - 4 ∈ ks
    ·have h7 : ks[i] = a - 4 := by
      obtain ⟨q, hq, e⟩ := List.getElem_of_mem h6.2
      have hqi : q ≤ i := by
       rcases Nat.lt_or_ge i q with h8 | h8
       ·rcases Nat.eq_or_lt_of_le (show i + 1 ≤ q from h8) with h9 | h9
        ·subst h9; omega
        ·have := rise_lt hs (i + 1) q h9 hq; omega
       ·exact h8
      rcases Nat.eq_or_lt_of_le hqi with h8 | h8
      ·subst h8; exact e
      ·have := rise_lt hs q i h8 hil; omega
     rw [hn, h7]
     constructor
     ·rintro (h8 | h8 | h8)
      ·exact .inr (by simpa using h8)
      ·exact .inl (.inl h8)
      ·omega
     ·rintro ((h8 | h8) | h8)
      ·exact .inr (.inl h8)
      ·exact absurd h6 h8
      ·exact .inl (by simp [h8])
    ·refine ⟨fun _ => .inl (.inr h6), fun _ => .inr (.inr fun h8 => h6 ⟨by omega, ?_⟩)⟩
     rw [hn] at h8
     rw [show a - 4 = ks[i] by omega]
     exact hlm
  have htake : ks.take (j + 1) = ks.take j ++ [a] := by rw [List.take_add_one, ha]; rfl
  refine ⟨?_, ?_, fun h => by omega, fun i b hi hb => ?_⟩
  ·show (bump (if op = false ∨ a ∈ lead ∨ a ≠ nextv la then bl ++ [(a, 0)] else bl)).map Prod.fst = _
   rw [htake, List.filter_append, ← i1]
   by_cases h : newb I nd lead ks a = true
   ·rw [if_pos (hc.2 h), (bump_map _ (by simp)).1]
    simp [h]
   ·rw [if_neg (fun h2 => h (hc.1 h2))]
    have hne : bl ≠ [] := fun e => by
     rw [e] at i2
     simp at i2
     exact h (hc.1 (.inl (i3 i2.symm)))
    rw [(bump_map _ hne).1]
    simp [h]
  ·show ((bump (if op = false ∨ a ∈ lead ∨ a ≠ nextv la then bl ++ [(a, 0)] else bl)).map Prod.snd).sum = _
   by_cases h : newb I nd lead ks a = true
   ·rw [if_pos (hc.2 h), (bump_map _ (by simp)).2]
    simp [i2]
   ·rw [if_neg (fun h2 => h (hc.1 h2))]
    have hne : bl ≠ [] := fun e => by
     rw [e] at i2
     simp at i2
     exact h (hc.1 (.inl (i3 i2.symm)))
    rw [(bump_map _ hne).2, i2]
  ·obtain rfl : j = i := by omega
   rw [ha] at hb
   obtain rfl := Option.some.inj hb
   rfl
theorem sortv_rise (l : List Nat) (h : l.Nodup) : (sortv l).Pairwise (fun x y => x < y) := by
 have hn : (sortv l).Nodup := (sortv_perm l).nodup_iff.2 h
 refine (List.pairwise_and_iff.2 ⟨sortv_sorted l, hn⟩).imp ?_
 rintro x y ⟨h1, h2⟩
 omega
theorem sortv_congr (l m : List Nat) (h : l.Perm m) : sortv l = sortv m :=
 List.Perm.eq_of_pairwise (le := fun x y => x ≤ y) (fun a b _ _ h1 h2 => by omega) (sortv_sorted l) (sortv_sorted m) ((sortv_perm l).trans (h.trans (sortv_perm m).symm))
structure FDone (I : Nat → Ins × Int) (aft : Ins → Nat → List Nat) (nd : Ins → Bool) (S : List Nat) (s : RS) : Prop where
 go : RGo I aft nd S s
 fin : s.left = []
 inv : RInv s
theorem FDone.make {I : Nat → Ins × Int} {aft : Ins → Nat → List Nat} {nd : Ins → Bool} {E : Nat} {es : List Nat} {k : Nat} (h : (rrun I aft nd k (rs0 E es)).left = []) (ha : ∀ x a, ∀ b ∈ aft x a, b < 4294967296) (hE : E < 4294967296) (he : ∀ a ∈ es, a < 4294967296) : FDone I aft nd (es ++ [E]) (rrun I aft nd k (rs0 E es)) :=
 ⟨RGo.run k _ (RGo.zero E es), h, RInv.run ha k _ (RInv.zero E es hE he)⟩
def fend (I : Nat → Ins × Int) (nd : Ins → Bool) (s : RS) : List (Nat × Nat) × Int :=
 match sortv s.bad with
 | b :: _ => ([], (I b).2)
 | [] => (((sortv s.seen).foldl (bstep I nd s.lead) ([], false, 0)).1, 0)
section
variable {I : Nat → Ins × Int} {aft : Ins → Nat → List Nat} {nd : Ins → Bool} {S S' : List Nat} {s s' : RS}
theorem bstep_congr (h : ∀ a, a ∈ s.lead ↔ a ∈ s'.lead) : bstep I nd s.lead = bstep I nd s'.lead := by
 funext z a
 unfold bstep
 simp only [h]
theorem FDone.same (h : FDone I aft nd S s) (h' : FDone I aft nd S' s') (hS : ∀ a, a ∈ S ↔ a ∈ S') : fend I nd s = fend I nd s' := by
 have hR : ∀ a, Rch I aft S a ↔ Rch I aft S' a := fun a => ⟨Rch.mono (fun a => (hS a).1), Rch.mono (fun a => (hS a).2)⟩
 have hs : ∀ a, a ∈ s.seen ↔ a ∈ s'.seen := fun a => by rw [h.go.seen_iff h.fin, h'.go.seen_iff h'.fin, hR]
 have hb : ∀ a, a ∈ s.bad ↔ a ∈ s'.bad := fun a => by rw [h.go.bad_iff h.fin, h'.go.bad_iff h'.fin, hR]
 have hl : ∀ a, a ∈ s.lead ↔ a ∈ s'.lead := fun a => by
  rw [h.go.ld, h'.go.ld, hS]
  simp only [hs]
 have e1 : sortv s.bad = sortv s'.bad := sortv_congr _ _ ((List.perm_ext_iff_of_nodup h.inv.b1 h'.inv.b1).2 hb)
 have e2 : sortv s.seen = sortv s'.seen := sortv_congr _ _ ((List.perm_ext_iff_of_nodup h.inv.s1 h'.inv.s1).2 hs)
 unfold fend
 rw [e1, e2, bstep_congr hl]
theorem FDone.err (h : FDone I aft nd S s) : ((fend I nd s).2 = 0 ↔ s.bad = []) ∧ (s.bad ≠ [] → (fend I nd s).1 = []) ∧ (s.bad = [] → fend I nd s = (((sortv s.seen).foldl (bstep I nd s.lead) ([], false, 0)).1, 0)) := by
 unfold fend
 cases hb : sortv s.bad with
 | nil =>
  have h0 : s.bad = [] := by
   have := sortv_length s.bad
   rw [hb] at this
   exact List.eq_nil_of_length_eq_zero this.symm
  exact ⟨⟨fun _ => h0, fun _ => rfl⟩, fun h => absurd h0 h, fun _ => rfl⟩
 | cons b r =>
  have hbm : b ∈ s.bad := (sortv_perm s.bad).mem_iff.1 (by rw [hb]; simp)
  have hne := h.go.no b hbm
  have h0 : s.bad ≠ [] := fun e => by rw [e] at hbm; simp at hbm
  exact ⟨⟨fun h => absurd h hne, fun h => absurd h h0⟩, fun _ => rfl, fun h => absurd h h0⟩
theorem FDone.more (h : FDone I aft nd S s) (h' : FDone I aft nd S' s') (hS : ∀ a ∈ S, a ∈ S') (hb : s'.bad = []) : s.bad = [] ∧ (∀ a ∈ s.seen, a ∈ s'.seen) ∧ (∀ a ∈ s.lead, a ∈ s'.lead) := by
 have hs : ∀ a ∈ s.seen, a ∈ s'.seen := fun a ha => by
  rw [h.go.seen_iff h.fin] at ha
  rw [h'.go.seen_iff h'.fin]
  exact ⟨Rch.mono hS ha.1, ha.2⟩
 refine ⟨?_, hs, fun a ha => ?_⟩
 ·cases hbad : s.bad with
  | nil => rfl
  | cons b r =>
   have hbm : b ∈ s.bad := by rw [hbad]; simp
   rw [h.go.bad_iff h.fin] at hbm
   have : b ∈ s'.bad := (h'.go.bad_iff h'.fin b).2 ⟨Rch.mono hS hbm.1, hbm.2⟩
   rw [hb] at this
   simp at this
 ·rw [h.go.ld] at ha
  rw [h'.go.ld]
  rcases ha with ha | ⟨b, hb1, hb2, hb3⟩
  ·exact .inl (hS a ha)
  ·exact .inr ⟨b, hs b hb1, hb2, hb3⟩
theorem FDone.lead_of (h : FDone I aft nd S s) (hp : ∀ x a, nd x = false → aft x a = [nextv a]) (h4 : ∀ a ∈ s.seen, a % 4 = 0 ∧ a + 4 < 4294967296) (a : Nat) (ha : a ∈ s.seen) (hn : ¬ (4 ≤ a ∧ a - 4 ∈ s.seen)) : a ∈ s.lead := by
 have hr := ((h.go.seen_iff h.fin a).1 ha).1
 rw [h.go.ld]
 cases hr with
 | base hS => exact .inl hS
 | @step b _ hb he hab =>
  have hbs : b ∈ s.seen := (h.go.seen_iff h.fin b).2 ⟨hb, he⟩
  cases hnd : nd (I b).1 with
  | true => exact .inr ⟨b, hbs, hnd, hab⟩
  | false =>
   rw [hp _ _ hnd, List.mem_singleton] at hab
   have m := h4 b hbs
   have e : nextv b = b + 4 := by unfold nextv; omega
   rw [e] at hab
   exact absurd ⟨by omega, by rw [hab, Nat.add_sub_cancel]; exact hbs⟩ hn
theorem filter_le (l m : List Nat) (p q : Nat → Bool) (hl : l.Nodup) (h : ∀ a ∈ l, a ∈ m) (hpq : ∀ a ∈ l, p a = true → q a = true) : (l.filter p).length ≤ (m.filter q).length := by
 refine nodup_len _ _ (hl.sublist List.filter_sublist) fun a ha => ?_
 rw [List.mem_filter] at ha ⊢
 exact ⟨h a ha.1, hpq a ha.1 ha.2⟩
theorem FDone.counts (h : FDone I aft nd S s) (h4 : ∀ a ∈ s.seen, a % 4 = 0 ∧ a + 4 < 4294967296) (hb : s.bad = []) : ((fend I nd s).1.map Prod.snd).sum = s.seen.length ∧ (fend I nd s).1.map Prod.fst = (sortv s.seen).filter (newb I nd s.lead (sortv s.seen)) := by
 have hm : ∀ a ∈ sortv s.seen, a % 4 = 0 ∧ a + 4 < 4294967296 := fun a ha => h4 a ((sortv_perm s.seen).mem_iff.1 ha)
 have hf := bfoldP_facts I nd s.lead (sortv s.seen) (sortv_rise _ h.inv.s1) hm (sortv s.seen).length (Nat.le_refl _)
 have e : bfoldP I nd s.lead (sortv s.seen) (sortv s.seen).length = (sortv s.seen).foldl (bstep I nd s.lead) ([], false, 0) := by
  unfold bfoldP
  rw [List.take_length]
 rw [e, List.take_length] at hf
 rw [h.err.2.2 hb]
 exact ⟨by rw [hf.2.1, sortv_length], hf.1⟩
theorem FDone.more_blocks (h : FDone I aft nd S s) (h' : FDone I aft nd S' s') (hS : ∀ a ∈ S, a ∈ S') (hp : ∀ x a, nd x = false → aft x a = [nextv a]) (h4 : ∀ a ∈ s.seen, a % 4 = 0 ∧ a + 4 < 4294967296) (h4' : ∀ a ∈ s'.seen, a % 4 = 0 ∧ a + 4 < 4294967296) (hb : s'.bad = []) :
  ((fend I nd s).1.map Prod.snd).sum ≤ ((fend I nd s').1.map Prod.snd).sum ∧ (fend I nd s).1.length ≤ (fend I nd s').1.length := by
 obtain ⟨hb0, hs, hl⟩ := h.more h' hS hb
 obtain ⟨c1, c2⟩ := h.counts h4 hb0
 obtain ⟨d1, d2⟩ := h'.counts h4' hb
 refine ⟨by rw [c1, d1]; exact nodup_len _ _ h.inv.s1 hs, ?_⟩
 have e1 : (fend I nd s).1.length = ((sortv s.seen).filter (newb I nd s.lead (sortv s.seen))).length := by rw [← c2, List.length_map]
 have e2 : (fend I nd s').1.length = ((sortv s'.seen).filter (newb I nd s'.lead (sortv s'.seen))).length := by rw [← d2, List.length_map]
 rw [e1, e2]
 have ms : ∀ a, a ∈ sortv s.seen ↔ a ∈ s.seen := fun a => (sortv_perm s.seen).mem_iff
 have ms' : ∀ a, a ∈ sortv s'.seen ↔ a ∈ s'.seen := fun a => (sortv_perm s'.seen).mem_iff
 refine filter_le _ _ _ _ ((sortv_perm s.seen).nodup_iff.2 h.inv.s1) (fun a ha => (ms' a).2 (hs a ((ms a).1 ha))) fun a ha hn => ?_
 unfold newb at hn ⊢
 simp only [Bool.or_eq_true, decide_eq_true_eq, Bool.not_eq_true', decide_eq_false_iff_not, ms, ms'] at hn ⊢
 rcases hn with (hn | hn) | hn
 ·exact .inl (.inl (hl a hn))
 ·exact .inl (.inl (hl a (h.lead_of hp h4 a ((ms a).1 ha) hn)))
 ·exact .inr hn
end
end Go.Proofs.Ytekenddkoahjgaa.Bl
