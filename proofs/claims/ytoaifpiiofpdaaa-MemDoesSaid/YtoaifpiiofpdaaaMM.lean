import Derived.Test.YtoaifpiiofpdaaaMD
import Derived.WalkKit
import Derived.KernelRfl
import Derived.Below
import Derived.Outline
import Derived.LoopTactic
import Derived.Maps.Own
import Derived.Maps.OwnOps
import Derived.Maps.OwnSet
import Derived.Maps.Views
import Derived.Maps.AppendAt
import Derived.Laws.BitsLemmas
import Derived.Laws.BitsAllLaws
import Derived.Deep.LoopGhost
import Derived.Lib.Hide
import Derived.Deep.QuietTactic
import Derived.BigQuiet
import Derived.Deep.Draws
import Derived.RangeFuncBox
import Derived.OwnWalk
import Derived.Laws.OwnMore
import Derived.Laws.BytesArg
import Derived.Laws.MakeOwn
namespace Go.Proofs.Ytoaifpiiofpdaaa.Mm
open Go.RowKit Go.Maps Go.Proofs
set_option linter.unusedVariables false
set_option linter.unusedSimpArgs false
/-! ### The reference's Load (refused), Store, Put, Bytes -/
theorem rLoad_not (p : Option Addr) (a k : Int) (w : World) (hk : ¬ (k = 1 ∨ k = 2 ∨ k = 4)) :
    Calls Try.prog 18 #[.pointer p, .int .u32 a, .int .i64 k] w fun e w' => e = .returned (.tuple #[.int .u32 0, .int .i64 1]) ∧ w = w' := by
  have b1 : (k != 1) = true := bne_iff_ne.mpr (by omega)
  have b2 : (k != 2) = true := bne_iff_ne.mpr (by omega)
  have b4 : (k != 4) = true := bne_iff_ne.mpr (by omega)
  clear hk
  go_enter Try.func18, Try.ntmps18
  go_wp2
  go_ret2
  exact ⟨rfl, rfl⟩
theorem rStore_not (p : Option Addr) (a k v : Int) (w : World) (hk : ¬ (k = 1 ∨ k = 2 ∨ k = 4)) :
    Calls Try.prog 19 #[.pointer p, .int .u32 a, .int .i64 k, .int .u32 v] w fun e w' => e = .returned (.int .i64 1) ∧ w = w' := by
  have b1 : (k != 1) = true := bne_iff_ne.mpr (by omega)
  have b2 : (k != 2) = true := bne_iff_ne.mpr (by omega)
  have b4 : (k != 4) = true := bne_iff_ne.mpr (by omega)
  clear hk
  go_enter Try.func19, Try.ntmps19
  go_wp2
  go_ret
  exact ⟨rfl, rfl⟩
theorem u32_wrap' (z : Int) : IntKind.u32.wrap z = z % 4294967296 := by simp [IntKind.wrap, IntKind.signed, IntKind.bits]
theorem low8 (x : Nat) : ((x : Int) % 256) = ((x % 256 : Nat) : Int) := by omega
theorem div_pow (v j : Nat) : v / 256 ^ j / 256 = v / 256 ^ (j + 1) := by rw [Nat.div_div_eq_div_mul, Nat.pow_succ]
set_option maxHeartbeats 3200000 in
theorem rStore_calls (p n : Nat) (f : Nat → Nat) (l : List (Nat × Nat)) (a k v : Nat) (w : World) (h : RefM w p n f l) (hn : n < 80000000) (ha : a < 4294967296) (hv : v < 4294967296) (hk : k = 1 ∨ k = 2 ∨ k = 4) :
    Calls Try.prog 19 #[.pointer (some ⟨p, 0, none⟩), .int .u32 (a : Int), .int .i64 (k : Int), .int .u32 (v : Int)] w fun e w' => e = .returned (.int .i64 0) ∧ (∃ l', RefM w' p (n + k) (putn f a (fun j => v / 256 ^ j % 256) k) l') ∧ w.grownBy w' (some p) := by
  have HM := Lib.hid h
  clear h
  have hvj : Hid (∀ j, v / 256 ^ j < 4294967296) := Lib.hid (fun j => Nat.lt_of_le_of_lt (Nat.div_le_self _ _) hv)
  rcases hk with rfl | rfl | rfl
  · show Calls Try.prog 19 #[.pointer (some ⟨p, 0, none⟩), .int .u32 (a : Int), .int .i64 1, .int .u32 (v : Int)] w _
    go_enter Try.func19, Try.ntmps19
    go_wp2
    go_loopw [3, 9] (fun s3 i wr => ∃ j : Nat, j ≤ 1 ∧ i = .int .i64 j ∧ s3 = .int .u32 ((v / 256 ^ j : Nat) : Int) ∧ (∃ l', RefM wr p (n + j) (putn f a (fun j => v / 256 ^ j % 256) j) l') ∧ w.grownBy wr (some p)) (fun _ i _ => 1 - (intOf i).toNat)
    case atStart => exact ⟨0, Nat.zero_le _, rfl, by simp, ⟨l, HM.out⟩, grown_refl _ _⟩
    case round =>
      obtain ⟨j, hj, rfl, rfl, ⟨l', hM⟩, hG⟩ := hrel
      have HM2 := Lib.hid hM
      have HG := Lib.hid hG
      clear hM hG
      by_cases hlt : j < 1
      · have hx := hvj.out j
        have HD := Lib.hid (div_pow v j)
        obtain ⟨x, hxe⟩ : ∃ x, x = v / 256 ^ j := ⟨_, rfl⟩
        rw [← hxe] at hx HD ⊢
        have HXE := Lib.hid hxe
        clear hxe
        go_wp2_with (go_at_call 28; refine hold_ ?_)
        intro _
        refine (rset_at p (n + j) _ l' ((a + j) % 4294967296) (x % 256) _ _ _ (by first | omega | (rw [u32_wrap']; omega)) (by omega) HM2.out (by omega) (Nat.mod_lt _ (by decide)) (Nat.mod_lt _ (by decide))).mono ?_
        rintro e w2 ⟨rfl, hM2, hg2⟩
        rw [HXE.out] at hM2
        have HN2 := Lib.hid hM2
        have HG2 := Lib.hid (HG.out.trans hg2)
        clear hM2 hg2
        go_wp2
        go_roundw
        case rel => exact ⟨j + 1, hlt, by go_num, by rw [← HD.out]; first | rfl | (congr 1; omega), ⟨_, HN2.out⟩, HG2.out⟩
        case measure => simp [intOf]; omega
      · obtain rfl : j = 1 := by omega
        go_wp2
        go_ret
        exact ⟨rfl, ⟨l', HM2.out⟩, HG.out⟩
  · show Calls Try.prog 19 #[.pointer (some ⟨p, 0, none⟩), .int .u32 (a : Int), .int .i64 2, .int .u32 (v : Int)] w _
    go_enter Try.func19, Try.ntmps19
    go_wp2
    go_loopw [3, 9] (fun s3 i wr => ∃ j : Nat, j ≤ 2 ∧ i = .int .i64 j ∧ s3 = .int .u32 ((v / 256 ^ j : Nat) : Int) ∧ (∃ l', RefM wr p (n + j) (putn f a (fun j => v / 256 ^ j % 256) j) l') ∧ w.grownBy wr (some p)) (fun _ i _ => 2 - (intOf i).toNat)
    case atStart => exact ⟨0, Nat.zero_le _, rfl, by simp, ⟨l, HM.out⟩, grown_refl _ _⟩
    case round =>
      obtain ⟨j, hj, rfl, rfl, ⟨l', hM⟩, hG⟩ := hrel
      have HM2 := Lib.hid hM
      have HG := Lib.hid hG
      clear hM hG
      by_cases hlt : j < 2
      · have hx := hvj.out j
        have HD := Lib.hid (div_pow v j)
        obtain ⟨x, hxe⟩ : ∃ x, x = v / 256 ^ j := ⟨_, rfl⟩
        rw [← hxe] at hx HD ⊢
        have HXE := Lib.hid hxe
        clear hxe
        go_wp2_with (go_at_call 28; refine hold_ ?_)
        intro _
        refine (rset_at p (n + j) _ l' ((a + j) % 4294967296) (x % 256) _ _ _ (by first | omega | (rw [u32_wrap']; omega)) (by omega) HM2.out (by omega) (Nat.mod_lt _ (by decide)) (Nat.mod_lt _ (by decide))).mono ?_
        rintro e w2 ⟨rfl, hM2, hg2⟩
        rw [HXE.out] at hM2
        have HN2 := Lib.hid hM2
        have HG2 := Lib.hid (HG.out.trans hg2)
        clear hM2 hg2
        go_wp2
        go_roundw
        case rel => exact ⟨j + 1, hlt, by go_num, by rw [← HD.out]; first | rfl | (congr 1; omega), ⟨_, HN2.out⟩, HG2.out⟩
        case measure => simp [intOf]; omega
      · obtain rfl : j = 2 := by omega
        go_wp2
        go_ret
        exact ⟨rfl, ⟨l', HM2.out⟩, HG.out⟩
  · show Calls Try.prog 19 #[.pointer (some ⟨p, 0, none⟩), .int .u32 (a : Int), .int .i64 4, .int .u32 (v : Int)] w _
    go_enter Try.func19, Try.ntmps19
    go_wp2
    go_loopw [3, 9] (fun s3 i wr => ∃ j : Nat, j ≤ 4 ∧ i = .int .i64 j ∧ s3 = .int .u32 ((v / 256 ^ j : Nat) : Int) ∧ (∃ l', RefM wr p (n + j) (putn f a (fun j => v / 256 ^ j % 256) j) l') ∧ w.grownBy wr (some p)) (fun _ i _ => 4 - (intOf i).toNat)
    case atStart => exact ⟨0, Nat.zero_le _, rfl, by simp, ⟨l, HM.out⟩, grown_refl _ _⟩
    case round =>
      obtain ⟨j, hj, rfl, rfl, ⟨l', hM⟩, hG⟩ := hrel
      have HM2 := Lib.hid hM
      have HG := Lib.hid hG
      clear hM hG
      by_cases hlt : j < 4
      · have hx := hvj.out j
        have HD := Lib.hid (div_pow v j)
        obtain ⟨x, hxe⟩ : ∃ x, x = v / 256 ^ j := ⟨_, rfl⟩
        rw [← hxe] at hx HD ⊢
        have HXE := Lib.hid hxe
        clear hxe
        go_wp2_with (go_at_call 28; refine hold_ ?_)
        intro _
        refine (rset_at p (n + j) _ l' ((a + j) % 4294967296) (x % 256) _ _ _ (by first | omega | (rw [u32_wrap']; omega)) (by omega) HM2.out (by omega) (Nat.mod_lt _ (by decide)) (Nat.mod_lt _ (by decide))).mono ?_
        rintro e w2 ⟨rfl, hM2, hg2⟩
        rw [HXE.out] at hM2
        have HN2 := Lib.hid hM2
        have HG2 := Lib.hid (HG.out.trans hg2)
        clear hM2 hg2
        go_wp2
        go_roundw
        case rel => exact ⟨j + 1, hlt, by go_num, by rw [← HD.out]; first | rfl | (congr 1; omega), ⟨_, HN2.out⟩, HG2.out⟩
        case measure => simp [intOf]; omega
      · obtain rfl : j = 4 := by omega
        go_wp2
        go_ret
        exact ⟨rfl, ⟨l', HM2.out⟩, HG.out⟩
set_option maxHeartbeats 800000 in
theorem rPut_calls (p n : Nat) (f : Nat → Nat) (l : List (Nat × Nat)) (a : Nat) (s : ByteArray) (w : World) (h : RefM w p n f l) (hn : n + s.size < 80000000) (ha : a < 4294967296) :
    Calls Try.prog 20 #[.pointer (some ⟨p, 0, none⟩), .int .u32 (a : Int), .string s] w fun e w' => e = .returned (.tuple #[]) ∧ (∃ l', RefM w' p (n + s.size) (putn f a (bt s) s.size) l') ∧ w.grownBy w' (some p) := by
  have HM := Lib.hid h
  clear h
  have hs : s.size ≤ 9223372036854775807 := by omega
  go_enter Try.func20, Try.ntmps20
  go_wp2
  go_loopw [6] (fun i wr => ∃ j : Nat, j ≤ s.size ∧ i = .int .i64 j ∧ (∃ l', RefM wr p (n + j) (putn f a (bt s) j) l') ∧ w.grownBy wr (some p)) (fun i _ => s.size - (intOf i).toNat)
  case atStart => exact ⟨0, Nat.zero_le _, rfl, ⟨l, HM.out⟩, grown_refl _ _⟩
  case round =>
    obtain ⟨j, hj, rfl, ⟨l', hM⟩, hG⟩ := hrel
    have HM2 := Lib.hid hM
    have HG := Lib.hid hG
    clear hM hG
    by_cases hlt : j < s.size
    · have hb : ((s[j].toNat : Nat) : Int) = (bt s j : Int) := by rw [bt_get s j hlt]
      go_wp2_with (go_at_call 28; refine hold_ ?_)
      intro _
      refine (rset_at p (n + j) _ l' ((a + j) % 4294967296) (bt s j) _ _ _ (addr_at a j) rfl HM2.out (by omega) (Nat.mod_lt _ (by decide)) (bt_lt s j)).mono ?_
      rintro e w2 ⟨rfl, hM2, hg2⟩
      have HN2 := Lib.hid hM2
      have HG2 := Lib.hid (HG.out.trans hg2)
      clear hM2 hg2
      go_wp2
      go_roundw
      case rel => exact ⟨j + 1, hlt, by go_num, ⟨_, HN2.out⟩, HG2.out⟩
      case measure => simp [intOf]; omega
    · obtain rfl : j = s.size := by omega
      go_wp2
      go_end0
      exact ⟨rfl, ⟨l', HM2.out⟩, HG.out⟩
end Go.Proofs.Ytoaifpiiofpdaaa.Mm
