import Derived.Test.YtoaifpiiofpdaaaMM
import Derived.WalkKit
import Derived.KernelRfl
import Derived.Below
import Derived.Outline
import Derived.LoopTactic
import Derived.Maps.Own
import Derived.Maps.OwnOps
import Derived.Maps.OwnSet
import Derived.Maps.Views
import Derived.Maps.AppendAt
import Derived.Laws.BitsLemmas
import Derived.Laws.BitsAllLaws
import Derived.Deep.LoopGhost
import Derived.Lib.Hide
import Derived.Deep.QuietTactic
import Derived.BigQuiet
import Derived.Deep.Draws
import Derived.RangeFuncBox
import Derived.OwnWalk
import Derived.Laws.OwnMore
import Derived.Laws.BytesArg
import Derived.Laws.MakeOwn
namespace Go.Proofs.Ytoaifpiiofpdaaa.Mm
open Go.RowKit Go.Maps Go.Proofs
set_option linter.unusedVariables false
set_option linter.unusedSimpArgs false
/-! ### The reference's Bytes -/
theorem RefM.below {w w' : World} {p n : Nat} {f : Nat → Nat} {l : List (Nat × Nat)} (h : RefM w p n f l) (hB : Below w.heap.size w w') : RefM w' p n f l := ⟨h.at_.below hB, h.rep, h.len, h.lt⟩
theorem rowB_snoc (f : Nat → Nat) (a j : Nat) : rowB f a (j + 1) (j + 1) = rowB f a j j ++ [.int .u8 (nth f a j : Int)] := by
  have e (k : Nat) : rowB f a k k = (List.range k).map (fun i => Value.int .u8 (nth f a i : Int)) := by
    unfold rowB
    apply List.map_congr_left
    intro i hi
    rw [if_pos (List.mem_range.1 hi)]
  rw [e, e, List.range_succ, List.map_append]
  rfl
theorem wp_appB {w : World} {ops : Array Oper} {rest : List Oper} {o : Oper} {ac : Act} {Q : Exit → Act → World → Prop} (hg : o.guard = none) (s x : Operand) (hop : o.op = .call { callee := .builtin .append, args := #[s, x], argTypes := #[43, 43] })
    (base : Nat) (v : Value) (n : Nat) (l : List Value) (c : Nat) (hs : ac.eval s = v) (hown : w.ownsRow base 5 1 v n l) (hx : ac.eval x = .slice (some ⟨w.heap.size, 0, none⟩) 1 1) (hl : n < 100000000) (hbase : base ≤ w.heap.size)
    (hK : ∀ v' w', w'.ownsRow base 5 1 v' (n + 1) (l ++ [.int .u8 (c : Int)]) → w.grownBy w' v.ownBlock → v' ≠ .slice none 0 0 → wpList Try.prog ops Q rest (ac.put o.dst v') w') :
    wpList Try.prog ops Q (o :: rest) ac (w.alloc (.cells #[.int .u8 (c : Int)] 5)) := by
  obtain ⟨i0, hi, hz0, hz1, hz2⟩ := info_parts info8
  refine wpList_append_own _ hg s x _ hop base _ i0 _ 1 1 Try.underlying43 hi hz0 hz1 hz2 rfl (by decide) v n l hs (hown.alloc _) ⟨w.heap.size, 0, none⟩ 1 1 [.int .u8 (c : Int)] hx rfl (cells_new w #[.int .u8 (c : Int)] _) (by simp [Value.oneCell']) (by unfold maxLen; omega) (by omega) (by simp; omega) ?_
  intro v' w' h1 h2 h3
  exact hK v' w' h1 ((World.grownBy_alloc w _ _).trans h2) (fun e => by have := h3.1 e; omega)
set_option maxHeartbeats 1600000 in
theorem rBytes_calls (p n : Nat) (f : Nat → Nat) (l : List (Nat × Nat)) (a : Nat) (K : Int) (w : World) (h : RefM w p n f l) (hn : n < 80000000) (ha : a < 4294967296) (hK : K < 10000000) :
    Calls Try.prog 21 #[.pointer (some ⟨p, 0, none⟩), .int .u32 (a : Int), .int .i64 K] w fun e w' => e = .returned (.string (strB f a K.toNat)) ∧ Below w.heap.size w w' := by
  have HM := Lib.hid h
  clear h
  obtain ⟨k, hk⟩ : ∃ k, k = K.toNat := ⟨_, rfl⟩
  rw [← hk]
  have hkl : k < 10000000 := by omega
  have HKK : Hid (∀ j : Nat, j < k ↔ (j : Int) < K) := Lib.hid (fun j => by omega)
  clear hk
  go_enter Try.func21, Try.ntmps21
  go_wp2
  have ho1 : World.ownsRow (w.alloc (.cells #[] 5)) w.heap.size 5 1 (.slice (some ⟨w.heap.size, 0, none⟩) 0 0) 0 (rowB f a 0 0) := World.ownsRow_lit w #[] 0 (Nat.le_refl _) (by unfold maxLen; omega) rfl
  have HO1 := Lib.hid ho1
  clear ho1
  go_loopw [7, 8] (fun s7 i wr => ∃ j : Nat, j ≤ k ∧ i = .int .i64 j ∧ s7 ≠ .slice none 0 0 ∧ wr.ownsRow w.heap.size 5 1 s7 j (rowB f a j j) ∧ Below w.heap.size w wr) (fun _ i _ => k - (intOf i).toNat)
  case atStart => exact ⟨0, Nat.zero_le _, rfl, by simp, HO1.out, (Below.refl _ w).alloc (Nat.le_refl _) _⟩
  case round =>
    obtain ⟨j, hj, rfl, hne, hO, hB⟩ := hrel
    rcases hO.2 with ⟨h1, _⟩ | ⟨g, cap, cur, rfl, hbg, _⟩
    · exact absurd h1 hne
    have HO := Lib.hid hO
    have HB := Lib.hid hB
    have HR := Lib.hid (HM.out.below hB)
    have HBG := Lib.hid hbg
    clear hO hB hne hbg
    by_cases hlt : j < k
    · have hK1 : (j : Int) < K := (HKK.out j).1 hlt
      go_wp2_with (go_at_call 27; refine hold_ ?_)
      intro _
      refine (rat_at p n f l ((a + j) % 4294967296) _ wr (addr_at a j) HR.out (by omega)).mono ?_
      rintro e w' ⟨rfl, rfl⟩
      go_wp2_with (at_builtin; refine hold_ ?_)
      intro _
      refine wp_appB rfl _ _ rfl w.heap.size (.slice (some ⟨g, 0, none⟩) j cap) j (rowB f a j j) (nth f a j) rfl HO.out rfl (by omega) HB.out.size ?_
      intro v' w3 h3 hg3 hn3
      rw [← rowB_snoc] at h3
      have H3 := Lib.hid h3
      have B3 := Lib.hid (HB.out.grown hg3 HB.out.size (fun q hq => by cases hq; exact HBG.out))
      have HN3 := Lib.hid hn3
      clear h3 hg3 hn3
      go_wp2
      go_roundw
      case rel => exact ⟨j + 1, hlt, by go_num, HN3.out, H3.out, B3.out⟩
      case measure => simp [intOf]; omega
    · have hK1 : ¬ ((j : Int) < K) := fun h => hlt ((HKK.out j).2 h)
      obtain rfl : j = k := by omega
      have hcv := conv_row f a j _ _ _ _ HO.out
      go_wp2
      go_ret
      exact ⟨rfl, HB.out⟩
end Go.Proofs.Ytoaifpiiofpdaaa.Mm
