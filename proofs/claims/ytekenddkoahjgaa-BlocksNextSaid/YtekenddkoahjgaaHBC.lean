import Derived.Test.YtekenddkoahjgaaHBB
import Derived.WalkKit
import Derived.KernelRfl
import Derived.Below
import Derived.Outline
import Derived.LoopTactic
import Derived.Maps.Own
import Derived.Maps.OwnOps
import Derived.Maps.OwnSet
import Derived.Maps.Views
import Derived.Maps.AppendAt
import Derived.Laws.BitsLemmas
import Derived.Laws.BitsAllLaws
import Derived.Deep.LoopGhost
import Derived.Lib.Hide
import Derived.Deep.QuietTactic
import Derived.BigQuiet
import Derived.Deep.Draws
import Derived.Laws.StructEq
import Derived.Deep.Slices
import Derived.Deep.Fields
import Derived.ChangeSame
import Derived.Deep.CutBlock
import Derived.Deep.DeepCutAuto
import Derived.Deep.RegionHeld3
import Derived.StillTailTactics
import Derived.WalkSmall
import Derived.OwnWalk
import Derived.Laws.OwnMore
import Derived.Laws.BytesArg
import Derived.Laws.MakeOwn
import Derived.Laws.Tables
import Derived.Laws.Rows
import Derived.Laws.World
import Derived.Lib.SliceRun
/- Layer 8, walked: a map's keys, slices.Min. -/
namespace Go.Proofs.Ytekenddkoahjgaa.Bl
open Go.RowKit Go.Maps Go.Proofs
set_option maxRecDepth 100000
set_option linter.unusedVariables false
set_option linter.unusedSimpArgs false
theorem keys_facts {H : Type} {R : Value → Option (DataW H × List MemPlace)} {w : World} {b n : Nat} {D : DataW H} (h : w.ownsMap Try.prog 24 R b n D) :
  (It.u32Keys D).Nodup ∧ (∀ x, x ∈ It.u32Keys D ↔ Maps.has D (.int .u32 x) = true) ∧ (∀ x ∈ It.u32Keys D, ∃ a : Nat, x = (a : Int) ∧ a < 4294967296) ∧ (It.u32Keys D).length = Maps.size D := by
 have hk := Try.underlying24
 obtain ⟨es, hD, hpw, _⟩ := h.entries law
 obtain ⟨es', hD', hko⟩ := h.keysOf
 obtain rfl : es = es' := by rw [hD] at hD'; simpa using hD'
 have hwf := It.u32Keys_wf h hk
 subst hD
 have hkk : ∀ p ∈ es, ∃ x, p.1 = Lit.int .u32 x := fun p hp => by
  obtain ⟨v, hv⟩ := hko p hp
  obtain ⟨x, _, hx, _⟩ := It.Maps.keyOf_u32 hk hv
  exact ⟨x, hx⟩
 refine ⟨?_, fun x => ?_, fun x hx => ?_, ?_⟩
 ·show (es.map fun p => It.litInt p.1).Nodup
  refine List.pairwise_map.2 (hpw.imp_of_mem fun {p q} hp' hq' hne e => hne ?_)
  obtain ⟨a, ha⟩ := hkk p hp'
  obtain ⟨b, hb⟩ := hkk q hq'
  rw [ha, hb] at e ⊢
  exact congrArg _ e
 ·rw [has_eq, List.any_eq_true]
  show x ∈ (es.map fun p => It.litInt p.1) ↔ _
  rw [List.mem_map]
  constructor
  ·rintro ⟨p, hp', rfl⟩
   obtain ⟨a, ha⟩ := hkk p hp'
   exact ⟨p, hp', by rw [ha]; simp [Lit.sameKey, It.litInt]⟩
  ·rintro ⟨p, hp', hs⟩
   obtain ⟨a, ha⟩ := hkk p hp'
   rw [ha] at hs
   exact ⟨p, hp', by rw [ha]; simpa [Lit.sameKey, It.litInt] using hs⟩
 ·have := hwf x hx
  simp [Lit.wf, IntKind.min, IntKind.max, IntKind.signed, IntKind.bits] at this
  exact ⟨x.toNat, by omega, by omega⟩
 ·simp [It.u32Keys, Maps.size]
theorem KM.keys {w : World} {b n : Nat} {g : Nat → Option Value} (h : KM w b n g) (l : List Nat) (hn : l.Nodup) (hl : ∀ a ∈ l, a < 4294967296) (hg : ∀ a, (g a).isSome = true ↔ a ∈ l) :
  ∃ D : DataW Value, w.ownsMap Try.prog 24 heldR b n D ∧ Maps.size D = l.length ∧ ∀ ss : List Int, ss.Perm (It.u32Keys D) → ss.Perm (l.map (fun x : Nat => (x : Int))) := by
 obtain ⟨D, ho, hD⟩ := h
 obtain ⟨k1, k2, k3, k4⟩ := keys_facts ho
 have hp : (It.u32Keys D).Perm (l.map (fun x : Nat => (x : Int))) := by
  refine (List.perm_ext_iff_of_nodup k1 (List.pairwise_map.2 (hn.imp (fun h e => h (by omega))))).2 fun x => ?_
  rw [List.mem_map]
  constructor
  ·intro hx
   obtain ⟨a, rfl, ha⟩ := k3 x hx
   refine ⟨a, (hg a).1 ?_, rfl⟩
   rw [← (hD a ha).1]
   exact (k2 _).1 hx
  ·rintro ⟨a, ha, rfl⟩
   refine (k2 _).2 ?_
   have := (hD a (hl a ha)).1
   rw [(hg a).2 ha] at this
   exact this
 exact ⟨D, ho, by rw [← k4, hp.length_eq, List.length_map], fun ss hs => hs.trans hp⟩
def mnv (l : List Nat) (j : Nat) : Nat := (l.take j).foldl min (l.getD 0 0)
theorem mnv_step (l : List Nat) (j : Nat) (h : j < l.length) : mnv l (j + 1) = min (mnv l j) (l.getD j 0) := by
 unfold mnv
 rw [List.take_add_one, List.foldl_append, List.getElem?_eq_getElem h, List.getD_eq_getElem?_getD, List.getD_eq_getElem?_getD, List.getElem?_eq_getElem h]
 rfl
theorem foldl_min_le (l : List Nat) (a : Nat) : l.foldl min a ≤ a ∧ (∀ x ∈ l, l.foldl min a ≤ x) ∧ (l.foldl min a = a ∨ l.foldl min a ∈ l) := by
 induction l generalizing a with
 | nil => exact ⟨Nat.le_refl _, fun x hx => by simp at hx, .inl rfl⟩
 | cons b l ih =>
  obtain ⟨h1, h2, h3⟩ := ih (min a b)
  simp only [List.foldl_cons]
  refine ⟨Nat.le_trans h1 (Nat.min_le_left _ _), fun x hx => ?_, ?_⟩
  ·rcases List.mem_cons.1 hx with rfl | hx
   ·exact Nat.le_trans h1 (Nat.min_le_right _ _)
   ·exact h2 x hx
  ·rcases h3 with h3 | h3
   ·rw [h3]
    rcases Nat.le_total a b with h | h
    ·exact .inl (Nat.min_eq_left h)
    ·exact .inr (by rw [Nat.min_eq_right h]; simp)
   ·exact .inr (List.mem_cons_of_mem _ h3)
theorem mnv_sort (l m : List Nat) (hp : m.Perm l) (b : Nat) (r : List Nat) (h : sortv l = b :: r) : mnv m m.length = b := by
 have hmem : ∀ x, x ∈ m ↔ x ∈ sortv l := fun x => hp.mem_iff.trans (sortv_perm l).mem_iff.symm
 have hs := sortv_sorted l
 rw [h] at hs hmem
 rw [List.pairwise_cons] at hs
 have hb : b ∈ m := (hmem b).2 (by simp)
 have hlen : 0 < m.length := List.length_pos_of_mem hb
 unfold mnv
 rw [List.take_length]
 have e0 : m.getD 0 0 ∈ m := by
  rw [List.getD_eq_getElem?_getD, List.getElem?_eq_getElem hlen]
  exact List.getElem_mem hlen
 obtain ⟨h1, h2, h3⟩ := foldl_min_le m (m.getD 0 0)
 have h4 : m.foldl min (m.getD 0 0) ∈ m := by
  rcases h3 with h3 | h3
  ·rw [h3]; exact e0
  ·exact h3
 have h5 := h2 b hb
 have h6 : b ≤ m.foldl min (m.getD 0 0) := by
  rcases List.mem_cons.1 ((hmem _).1 h4) with h | h
  ·omega
  ·exact hs.1 _ h
 omega
theorem add0 (ad : Addr) : ad.add 0 = ad := by unfold Addr.add; split <;> simp_all
theorem Min_calls (A : Option Addr) (c : Nat) (l : List Nat) (w : World) (hr : RdU w A l) (hl : l.length < 1000000) (h0 : 0 < l.length) :
  Calls Try.prog 37 #[.slice A l.length c] w fun e w' => e = .returned (.int .u32 (mnv l l.length : Int)) ∧ w = w' := by
 obtain ⟨ad, rfl, hc0⟩ := hr 0 h0
 obtain ⟨N, hN⟩ : ∃ N, l.length = N := ⟨_, rfl⟩
 rw [hN] at h0 hl ⊢
 have HL := Lib.hid hN
 have HR := Lib.hid hr
 obtain ⟨x0, hx0⟩ : ∃ x, l.getD 0 0 = x := ⟨_, rfl⟩
 rw [add0, hx0] at hc0
 have c0 : w.cell? ad = some (.int .u32 (x0 : Int)) := hc0
 have M0 := Lib.hid (show mnv l 1 = x0 by
  rw [← hx0]
  cases l with
  | nil => simp at hN; omega
  | cons x l => simp [mnv])
 clear hr hN hx0 hc0
 go_enter Try.func37, Try.ntmps37
 go_wp2
 go_loopw [3, 4] (fun s3 s4 wx => ∃ (j m : Nat), 1 ≤ j ∧ j ≤ N ∧ s4 = .int .i64 j ∧ s3 = .int .u32 (m : Int) ∧ Hid (mnv l j = m) ∧ wx = w) (fun _ s4 _ => N - (intOf s4).toNat)
 case atStart => exact ⟨1, x0, by omega, by omega, rfl, rfl, M0, rfl⟩
 case round =>
  obtain ⟨j, m, hj1, hjN, rfl, rfl, HM, rfl⟩ := hrel
  by_cases hlt : j < N
  ·obtain ⟨ad', e, hcj⟩ := HR.out j (by rw [HL.out]; exact hlt)
   injection e with e
   subst e
   obtain ⟨x, hx⟩ : ∃ x, l.getD j 0 = x := ⟨_, rfl⟩
   rw [hx] at hcj
   have cj : wr.cell? (ad.add j) = some (.int .u32 (x : Int)) := hcj
   have HX := Lib.hid hx
   clear hcj hx
   go_wp2
   exact ⟨⟨j + 1, min m x, by omega, by omega, by go_num, by congr 1; omega, Lib.hid (by rw [mnv_step l j (by rw [HL.out]; exact hlt), HM.out, HX.out]), trivial⟩, by simp [intOf]; omega⟩
  ·have hjN : j = N := by omega
   subst hjN
   go_wp2
   go_ret
   rw [HM.out]
   exact ⟨rfl, rfl⟩
end Go.Proofs.Ytekenddkoahjgaa.Bl
