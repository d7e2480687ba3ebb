import Derived.Test.YtekenddkoahjgaaHS4
import Derived.Test.YtekenddkoahjgaaHIT
import Derived.Shelf.SlIter.Collect
import Derived.Shelf.AbstractIn
import Derived.RangeFuncSeq
import Derived.RangeFuncBound
import Derived.RangeFuncGives
import Derived.Sort.MapsRangeIn
import Derived.Sort.KeysCollected
import Derived.Sort.OwnSorted
import Derived.Maps.AppendAt
import Derived.Shelf.Abstract
import Derived.WalkKit
import Derived.OwnWalkIn
import Derived.TacticsInMore
import Derived.RegionIn
import Derived.LoopNIn
import Derived.LoopIn
import Derived.KernelRfl
import Derived.Laws.Externs
import Derived.MapKept
import Derived.Shelf.SlMaps.Clone
/- maps.Keys of a map[uint32]uint8, slices.Collect, slices.AppendSeq, slices.Sorted, maps.Clone: what they answer (of maps whose keys' bytes are fewer than 2^47). -/
namespace Go.Proofs.Ytekenddkoahjgaa.Ie
open Go.RowKit Go.Maps Go.Sort Go.Shelf Go.Proofs Go.Proofs.Ytekenddkoahjgaa.Srt Go.Proofs.Ytekenddkoahjgaa.It
set_option maxRecDepth 100000
set_option linter.unusedVariables false
set_option linter.unusedSimpArgs false
set_option maxRecDepth 100000 in
set_option maxHeartbeats 1000000 in
theorem it_keys1N_in {H : Type} (F : Fence) (n : Nat) (h10 : F.fn 57) (hro : F.round = none) (hn : 1 ≤ n) (l Bm b nn : Nat) (D0 : DataW H) {R : Value → Option (DataW H × List MemPlace)} (J : List Int → World → Prop)
  (hY : ∀ pre x W, J pre W → pre.length < Maps.size D0 → YieldAt F (n - 1) Try.prog l #[encK x] W fun e W' => e = .returned (.bool true) ∧ J (pre ++ [x]) W' ∧ KeepsWalks W W')
  (W : World) (hJ : AbidesFrom W.heap.size J) (hm : W.cell? ⟨Bm, 0, none⟩ = some (.map (some b))) (hown : W.ownsMap Try.prog 24 R b nn D0) (h0 : J [] W) :
  CallsIn F n Try.prog 57 #[.func (.yield l) #[] #[], .pointer (some ⟨Bm, 0, none⟩)] W fun e W' => (∃ v, e = .returned v) ∧ ∃ ss : List Int, ss.Perm (u32Keys D0) ∧ J ss W' := by
 refine callsIn_of_wp Try.func57 rfl h10 ?_ hro
 simp only [Try.ntmps57, List.size_toArray, List.length_cons, List.length_nil, Nat.reduceAdd, Nat.reduceSub, Array.replicate_succ, Array.replicate_zero, List.push_toArray, List.append_toArray, List.nil_append, List.cons_append]
 gi_wp2_with (first
  | (gi_at_range; refine wpListIn_range_own _ rfl _ 61 rfl 24 35 (int_keyed Try.underlying24) Try.underlying61 _ b nn _ rfl hown ?_; intro w0 hrg0 hg0 hs0)
  | gi_in)
 go_frame
 gi_loopw [3] (fun _ wr => ∃ (left : Lit → Bool) (cnt : Nat) (ss : List Int), wr.ranges Try.prog 24 R b W.heap.size nn D0 left cnt ∧ ss.length + cnt ≤ Maps.size D0 ∧ CollectedU D0 left ss ∧ J ss wr)
  (fun _ wr => wr.rangeLeft b W.heap.size)
 case atStart =>
  exact ⟨_, _, [], hrg0, by simp, CollectedU.start D0, hJ [] W w0 none h0 hg0 (fun r e => by cases e)⟩
 case round =>
  obtain ⟨left, cnt, ss, hrg, hcs, hC, hJs⟩ := hrel
  gi_wp2_with (first
   | (gi_at_next; refine wpListIn_next_ranges _ rfl _ rfl 24 (int_keyed Try.underlying24) R encK id (fun key kl hk => by obtain ⟨x, hx, _⟩ := Maps.keyOf_u32 Try.underlying24 hk; exact ⟨x, hx⟩) (fun v _ _ => ⟨v, rfl⟩) b W.heap.size nn _ _ _ rfl hrg ?_ ?_)
   | gi_in)
  ·
   intro hc0 hl0
   gi_wp2
   go_end0
   exact ⟨⟨_, rfl⟩, ss, hC.perm hown (int_keyed Try.underlying24) Try.underlying24 hl0, hJs⟩
  ·
   intro x c kl yd yp w2 cnt2 hkey hlk hv hat hrg2 hlt hg2 hs2 hen
   obtain ⟨x', ex, rfl, _⟩ := Maps.keyOf_u32 Try.underlying24 hkey
   obtain rfl : x = x' := encK_inj ex
   have hJ2 : J ss w2 := hJ ss wr w2 (some W.heap.size) hJs hg2 (fun r e => by cases e; exact ⟨Nat.le_refl _, hrg.iter_walk⟩)
   obtain ⟨fn, tmps, assign, body, hy, hR⟩ := hY ss x w2 hJ2 (by omega)
   clear hs2
   gi_wp2
   refine hR.mono ?_
   rintro e W3 ⟨rfl, hJ3, hk3⟩
   gi_wp2
   have hrg3 := hrg2.of_walks hk3
   go_roundw
   case rel => exact ⟨_, cnt2, ss ++ [x], hrg3, by simp; omega, hC.step hlk hat, hJ3⟩
   case measure => rw [hrg3.left_eq, hrg.left_eq]; exact hlt
theorem it_keys_gives {H : Type} (F : Fence) (n : Nat) (h10 : F.fn 57) (hro : F.round = none) (hn : 1 ≤ n) (Bm b nn : Nat) (D0 : DataW H) {R : Value → Option (DataW H × List MemPlace)} (w : World) (hBm : Bm < w.heap.size)
  (hm : w.cell? ⟨Bm, 0, none⟩ = some (.map (some b))) (hown : w.ownsMap Try.prog 24 R b nn D0) :
  SeqGives F n Try.prog 57 #[.pointer (some ⟨Bm, 0, none⟩)] encK (fun ss => ss.Perm (u32Keys D0)) (Maps.size D0) w := fun l J W hW hJ hY h0 => by
 have hown' : W.ownsMap Try.prog 24 R b nn D0 := by
  have hbl := hown.lt
  obtain ⟨es, clock, hb, Ft, hs, hD⟩ := hown
  exact ⟨es, clock, (hW.block b hbl).trans hb, Ft, hs, hD⟩
 exact it_keys1N_in F n h10 hro hn l Bm b nn D0 J hY W hJ ((hW.cell (p := ⟨Bm, 0, none⟩) hBm).trans hm) hown' h0
set_option maxHeartbeats 2000000 in
theorem keysU (mb : Option Nat) (w : World) :
  CallsIn Fence.wide 5 Try.prog 39 #[.map mb] w fun e w' => e = .returned (.func (.func 57) #[] #[.pointer (some ⟨w.heap.size, 0, none⟩)]) ∧ w' = w.alloc (.cells #[.map mb] 61) := by
 refine callsIn_of_wp Try.func39 rfl trivial ?_ rfl
 simp only [Try.ntmps39, List.size_toArray, List.length_cons, List.length_nil, Nat.reduceAdd, Nat.reduceSub, Array.replicate_succ, Array.replicate_zero, List.push_toArray, List.append_toArray, List.nil_append, List.cons_append]
 gi_wp2
 go_ret
 exact ⟨rfl, rfl⟩
theorem keysU_calls (mb : Option Nat) (w : World) :
  Calls Try.prog 39 #[.map mb] w fun e w' => e = .returned (.func (.func 57) #[] #[.pointer (some ⟨w.heap.size, 0, none⟩)]) ∧ w' = w.alloc (.cells #[.map mb] 61) :=
 (callsIn_wide (n := 5)).1 (keysU mb w)
set_option maxHeartbeats 2000000 in
theorem keysUI (mb : Option Nat) (w : World) :
  CallsIn Fence.wide 5 Try.prog 41 #[.map mb] w fun e w' => e = .returned (.func (.func 58) #[] #[.pointer (some ⟨w.heap.size, 0, none⟩)]) ∧ w' = w.alloc (.cells #[.map mb] 59) := by
 refine callsIn_of_wp Try.func41 rfl trivial ?_ rfl
 simp only [Try.ntmps41, List.size_toArray, List.length_cons, List.length_nil, Nat.reduceAdd, Nat.reduceSub, Array.replicate_succ, Array.replicate_zero, List.push_toArray, List.append_toArray, List.nil_append, List.cons_append]
 gi_wp2
 go_ret
 exact ⟨rfl, rfl⟩
theorem sortedUI {H : Type} (b nn Bm : Nat) (D0 : DataW H) (R : Value → Option (DataW H × List MemPlace)) (w : World) (hBm : Bm < w.heap.size) (hm : w.cell? ⟨Bm, 0, none⟩ = some (.map (some b))) (hown : w.ownsMap Try.prog 24 R b nn D0) (hmax : Maps.size D0 ≤ maxLen) (hbytes : Maps.size D0 * 4 ≤ 140737488355328) :
  Calls Try.prog 40 #[.func (.func 58) #[] #[.pointer (some ⟨Bm, 0, none⟩)]] w fun e w' => ∃ (v : Value) (ss : List Int), e = .returned v ∧ ss.Perm (u32Keys D0) ∧
   w'.ownsRow w.heap.size 24 1 v ss.length ((ss.mergeSort (fun x y => decide (x ≤ y))).map encK) ∧ (v = .slice none 0 0 ↔ ss = []) ∧ Below w.heap.size w w' := by
 refine (callsIn_wide (n := 5)).1 ?_
 have hseq : SeqGives Fence.wide 2 Try.prog 58 #[.pointer (some ⟨Bm, 0, none⟩)] encK (fun ss => ss.Perm (u32Keys D0)) (Maps.size D0) w :=
  It.it_keys_gives Fence.wide _ trivial rfl (by omega) Bm b nn D0 _ hBm hm hown
 exact it_sorted_in Fence.wide 5 trivial trivial trivial trivial rfl (by omega) (sortsU _) (enters_of Try.func28 (by kernel_rfl) rfl) 58 #[.pointer (some ⟨Bm, 0, none⟩)] trivial (enters_of Try.func58 (by kernel_rfl) rfl) _ _ hmax hbytes _ hseq
theorem keysUI_calls (mb : Option Nat) (w : World) :
  Calls Try.prog 41 #[.map mb] w fun e w' => e = .returned (.func (.func 58) #[] #[.pointer (some ⟨w.heap.size, 0, none⟩)]) ∧ w' = w.alloc (.cells #[.map mb] 59) :=
 (callsIn_wide (n := 5)).1 (keysUI mb w)
theorem collectU {H : Type} (b nn Bm : Nat) (D0 : DataW H) (R : Value → Option (DataW H × List MemPlace)) (w : World) (hBm : Bm < w.heap.size) (hm : w.cell? ⟨Bm, 0, none⟩ = some (.map (some b))) (hown : w.ownsMap Try.prog 24 R b nn D0) (hmax : Maps.size D0 ≤ maxLen) (hbytes : Maps.size D0 * 4 ≤ 140737488355328) :
  Calls Try.prog 38 #[.func (.func 57) #[] #[.pointer (some ⟨Bm, 0, none⟩)]] w fun e w' => ∃ (v : Value) (ss : List Int), e = .returned v ∧ ss.Perm (u32Keys D0) ∧
   w'.ownsRow w.heap.size 24 1 v ss.length (ss.map encK) ∧ (v = .slice none 0 0 ↔ ss = []) ∧ Below w.heap.size w w' := by
 refine (callsIn_wide (n := 5)).1 ?_
 have hseq : SeqGives Fence.wide 3 Try.prog 57 #[.pointer (some ⟨Bm, 0, none⟩)] encK (fun ss => ss.Perm (u32Keys D0)) (Maps.size D0) w :=
  it_keys_gives Fence.wide _ trivial rfl (by omega) Bm b nn D0 _ hBm hm hown
 refine (it_collect_in Fence.wide 5 trivial trivial rfl (by omega) 57 #[.pointer (some ⟨Bm, 0, none⟩)] trivial (enters_of Try.func57 (by kernel_rfl) rfl) _ _ hmax hbytes _ hseq.bounded).mono ?_
 rintro e W ⟨v, ss, rfl, ⟨hS, hlen⟩, hrow, hnil, hb⟩
 exact ⟨v, ss, rfl, hS, hrow, hnil, hb⟩
end Go.Proofs.Ytekenddkoahjgaa.Ie
