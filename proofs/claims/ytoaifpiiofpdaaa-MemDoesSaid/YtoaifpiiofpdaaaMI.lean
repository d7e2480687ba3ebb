import Derived.Test.YtoaifpiiofpdaaaMH
import Derived.WalkKit
import Derived.KernelRfl
import Derived.Below
import Derived.Outline
import Derived.LoopTactic
import Derived.Maps.Own
import Derived.Maps.OwnOps
import Derived.Maps.OwnSet
import Derived.Maps.Views
import Derived.Maps.AppendAt
import Derived.Laws.BitsLemmas
import Derived.Laws.BitsAllLaws
import Derived.Deep.LoopGhost
import Derived.Lib.Hide
import Derived.Deep.QuietTactic
import Derived.BigQuiet
import Derived.Deep.Draws
import Derived.Laws.StructEq
import Derived.StillTailTactics
import Derived.WalkSmall
import Derived.RangeFuncBox
import Derived.OwnWalk
import Derived.Laws.OwnMore
import Derived.Laws.BytesArg
import Derived.Laws.MakeOwn
namespace Go.Proofs.Ytoaifpiiofpdaaa.Mm
open Go.RowKit Go.Maps Go.Proofs
set_option linter.unusedVariables false
set_option linter.unusedSimpArgs false
/-! ### MemZero -/
theorem putn_get (g : Nat → Nat) (a : Nat) (c : Nat → Nat) (k i : Nat) (ha : a < 4294967296) (hk : k ≤ 4294967296) (hi : i < k) : putn g a c k ((a + i) % 4294967296) = c i := by
  rw [putn_at _ _ _ _ _ ha hk]
  have e : ((a + i) % 4294967296 + (4294967296 - a)) % 4294967296 = i := by omega
  rw [e, if_pos ⟨Nat.mod_lt _ (by decide), hi⟩]
theorem strB_eq (f : Nat → Nat) (a : Nat) (S : ByteArray) (k : Nat) (hk : k = S.size) (h : ∀ i, i < k → f ((a + i) % 4294967296) = bt S i) : S = strB f a k := by
  have e : (strB f a k).data.toList = ((List.range k).map (fun i => (nth f a i : Int))).map fun n => UInt8.ofNat n.toNat := strOfNums_data _
  apply ByteArray.ext
  apply Array.ext'
  rw [e]
  apply List.ext_getElem?
  intro i
  have hsz : S.data.toList.length = k := by rw [hk]; rfl
  by_cases hi : i < k
  · have hi2 : i < S.data.size := by rw [← Array.length_toList, hsz]; exact hi
    simp only [List.getElem?_map, List.getElem?_range hi, Option.map_some, Array.getElem?_toList, Array.getElem?_eq_getElem hi2, nth]
    congr 1
    rw [h i hi]
    unfold bt
    rw [Array.getD_eq_getD_getElem?, Array.getElem?_eq_getElem hi2]
    simp
  · rw [List.getElem?_eq_none (by omega), List.getElem?_eq_none (by simp; omega)]
theorem Copy_named {B p b n : Nat} {f : Nat → Nat} {w0 w : World} (h : MemAt w p b n f) (hb : Below B w0 w) (hB : B ≤ w.heap.size) :
    Calls Try.prog 22 #[.pointer (some ⟨p, 0, none⟩)] w fun e w' => ∃ q d, e = .returned (.pointer (some ⟨q, 0, none⟩)) ∧ MemAt w' q d n f ∧ MemAt w' p b n f ∧ w.heap.size ≤ q ∧ w.heap.size ≤ d ∧ Below B w0 w' :=
  (Copy_calls p b n f w h).mono fun e w' ⟨h1, h2, h3, h4⟩ => ⟨_, _, h1, h2, h3, Nat.le_succ _, Nat.le_refl _, hb.grown h4 hB (fun k hk => by cases hk)⟩
theorem rep_nil {f : Nat → Nat} (h : ∀ x, f x = 0) : Rep f [] := ⟨List.Pairwise.nil, fun a c => by simp [h]⟩
theorem zeroed (a : Nat) (S Z : ByteArray) (ha : a < 4294967296) (hS : S.size ≤ 4294967296) (hz : Z.size = S.size) (h0 : ∀ i, i < S.size → bt Z i = 0) (x : Nat) : putn (putn (fun _ => 0) a (bt S) S.size) a (bt Z) Z.size x = 0 := by
  rw [hz, putn_at _ _ _ _ _ ha hS, putn_at _ _ _ _ _ ha hS]
  by_cases h : x < 4294967296 ∧ (x + (4294967296 - a)) % 4294967296 < S.size
  · rw [if_pos h]; exact h0 _ h.2
  · rw [if_neg h, if_neg h]
theorem rowB_nought (a k j : Nat) : rowB (fun _ => 0) a k j = rowB (fun _ => 0) a k k := by
  unfold rowB nth
  simp
set_option maxHeartbeats 3200000 in
theorem walk_MemZero (a : Int) (s : ByteArray) (W : World) (h0 : (Lit.int .u32 a).wf = true) (hs : s.size ≤ 140737488351232) :
    Calls Try.prog 8 #[.int .u32 a, .string s] W fun e w' => e = .returned (.bool true) ∧ Below W.heap.size W w' := by
  obtain ⟨a, ha, rfl⟩ := nat_of_wf h0
  clear h0
  obtain ⟨i0, hi, hz0, hz1, hz2⟩ := info_parts info8
  have HI := Lib.hid hi; have HZ0 := Lib.hid hz0; have HZ2 := Lib.hid hz2
  clear hi hz0 hz2
  go_enter Try.func8, Try.ntmps8
  go_wp2_with (go_at_call 9; refine hold_ ?_)
  intro _
  refine (New_named (Below.refl W.heap.size W) (Nat.le_refl _)).mono ?_
  rintro e w1 ⟨p, b, rfl, h1, k1, l1, g1, b1⟩
  have H1 := Lib.hid h1; have B1 := Lib.hid b1; have K1 := Lib.hid k1; have L1 := Lib.hid l1
  clear h1 g1 b1 k1 l1
  go_wp2_with (go_at_call 14; refine hold_ ?_)
  intro _
  obtain ⟨S, hS⟩ : ∃ S, S = s.extract 0 (min (s.size : Int) 30).toNat := ⟨_, rfl⟩
  have hSl : S.size ≤ 30 := by rw [hS]; exact cut_le s 30
  have HS := Lib.hid hS
  rw [← hS]
  clear hS
  refine (Put_at H1.out a _ S rfl (by omega) ha).mono ?_
  rintro e w2 ⟨rfl, h2, g2⟩
  have H2 := Lib.hid h2
  have B2 := Lib.hid (B1.out.grown g2 B1.out.size (fun k hk => by cases hk; exact L1.out))
  clear h2 g2
  go_wp2_with (go_at_call 22; refine hold_ ?_)
  intro _
  refine (Copy_named H2.out B2.out B2.out.size).mono ?_
  rintro e w3 ⟨q, d, rfl, h3, m3, k3, l3, b3⟩
  have hpl := H2.out.lt
  have hbl := H2.out.map.lt
  have H3 := Lib.hid m3; have C3 := Lib.hid h3; have B3 := Lib.hid b3
  have e1 : Hid (q ≠ b) := Lib.hid (by omega)
  have e2 : Hid (d ≠ b) := Lib.hid (by omega)
  clear h3 m3 k3 l3 b3 hpl hbl
  go_wp2_with (at_make; refine hold_ ?_)
  intro _
  refine wpList_make_full _ rfl _ _ _ rfl w3.heap.size 5 i0 (.int .u8 0) 1 Try.underlying43 HI.out HZ0.out hz1 .i64 .i64 _ _ S.size rfl rfl rfl rfl (by rw [HZ2.out]; omega) (by unfold maxLen; omega) (Nat.le_refl _) ?_
  intro w4 hown4 hg4
  have H4 := Lib.hid (H3.out.kept hg4 (by simp) (by simp))
  have C4 := Lib.hid (C3.out.kept hg4 (by simp) (by simp))
  have B4 := Lib.hid (B3.out.grown hg4 B3.out.size (fun k hk => by cases hk))
  have hcv := conv_row (fun _ => 0) a S.size w3.heap.size S.size w3.heap.size w4 (by rw [← rowB_nought _ _ 0, ← rowB_zero]; exact hown4)
  clear hown4 hg4
  obtain ⟨Z, hZ⟩ : ∃ Z, strB (fun _ => 0) a S.size = Z := ⟨_, rfl⟩
  rw [hZ] at hcv
  have hZs : Hid (Z.size = S.size) := Lib.hid (by rw [← hZ]; exact strB_size _ _ _)
  have hZ0 : Hid (∀ i, i < S.size → bt Z i = 0) := Lib.hid (by rw [← hZ]; exact fun i hi => bt_strB _ a S.size i hi (fun _ => by omega))
  clear hZ
  go_wp2_with (go_at_call 14; refine hold_ ?_)
  intro _
  refine (Put_at H4.out a _ Z rfl (by have := hZs.out; omega) ha).mono ?_
  rintro e w5 ⟨rfl, h5, g5⟩
  have H5 := Lib.hid h5
  have C5 := Lib.hid (C4.out.other g5 e1.out e2.out)
  have B5 := Lib.hid (B4.out.grown g5 B4.out.size (fun k hk => by cases hk; exact L1.out))
  clear h5 g5 hcv
  go_wp2_with (go_at_call 12; refine hold_ ?_)
  intro _
  refine (Cells_calls _ _ _ _ _ H5.out (by have := hZs.out; omega)).mono ?_
  rintro e w6 ⟨v, l, rfl, hr, hl, ho, hz, hb⟩
  obtain rfl := hr.unique (rep_nil (zeroed a S Z ha (by omega) hZs.out hZ0.out))
  obtain rfl := hz.2 rfl
  have C6 := Lib.hid (C5.out.below hb)
  have B6 := Lib.hid (B5.out.trans (hb.mono B5.out.size))
  clear ho hb hr hl hz
  go_wp2_with (go_at_call 15; refine hold_ ?_)
  intro _
  refine (Bytes_at C6.out a S.size _ _ S rfl rfl (strB_eq _ a S _ rfl (fun i hi => putn_get _ _ _ _ _ ha (by omega) hi)) ha (by omega)).mono ?_
  rintro e w7 ⟨rfl, hb⟩
  have B7 := Lib.hid (B6.out.trans (hb.mono B6.out.size))
  clear hb
  go_wp2_with (go_at_call 15; refine hold_ ?_)
  intro _
  refine (Bytes_neg _ a (-1) _ (by decide)).mono ?_
  rintro e w' ⟨rfl, rfl⟩
  go_wp2_with (go_at_call 13; refine hold_ ?_)
  intro _
  refine (fixed_calls _).mono ?_
  rintro e w8 ⟨rfl, hb⟩
  have B8 := Lib.hid (B7.out.trans (hb.mono B7.out.size))
  clear hb
  go_wp2
  go_ret
  exact ⟨by simp, B8.out⟩
end Go.Proofs.Ytoaifpiiofpdaaa.Mm
