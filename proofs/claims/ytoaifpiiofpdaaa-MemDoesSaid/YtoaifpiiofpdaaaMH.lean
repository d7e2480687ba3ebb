import Derived.Test.YtoaifpiiofpdaaaMG
import Derived.WalkKit
import Derived.KernelRfl
import Derived.Below
import Derived.Outline
import Derived.LoopTactic
import Derived.Maps.Own
import Derived.Maps.OwnOps
import Derived.Maps.OwnSet
import Derived.Maps.Views
import Derived.Maps.AppendAt
import Derived.Laws.BitsLemmas
import Derived.Laws.BitsAllLaws
import Derived.Deep.LoopGhost
import Derived.Lib.Hide
import Derived.Deep.QuietTactic
import Derived.BigQuiet
import Derived.Deep.Draws
import Derived.Laws.StructEq
import Derived.StillTailTactics
import Derived.WalkSmall
import Derived.RangeFuncBox
import Derived.OwnWalk
import Derived.Laws.OwnMore
import Derived.Laws.BytesArg
import Derived.Laws.MakeOwn
namespace Go.Proofs.Ytoaifpiiofpdaaa.Mm
open Go.RowKit Go.Maps Go.Proofs
set_option linter.unusedVariables false
set_option linter.unusedSimpArgs false
theorem cut_le (s : ByteArray) (n : Nat) : (s.extract 0 (min (s.size : Int) (n : Int)).toNat).size ≤ n := by
  rw [ByteArray.size_extract]
  omega
theorem u32_wrap (z : Int) : IntKind.u32.wrap z = z % 4294967296 := by simp [IntKind.wrap, IntKind.signed, IntKind.bits]
theorem or_sh (x y s : Nat) (hx : x < 2 ^ s) (hy : y * 2 ^ s < 4294967296) (hs : s ≤ 31) : Go.bits .or .u32 (x : Int) (IntKind.u32.wrap ((y : Int) * ((2 ^ s : Nat) : Int))) = ((x + y * 2 ^ s : Nat) : Int) := by
  have h2 : 2 ^ s ≤ 2 ^ 31 := Nat.pow_le_pow_right (by decide) hs
  have h3 : (2 : Nat) ^ 31 = 2147483648 := by decide
  rw [h3] at h2
  have h0 := Nat.two_pow_add_eq_or_of_lt hx y
  rw [u32_wrap]
  generalize 2 ^ s = q at *
  rw [← Int.natCast_mul, Int.emod_eq_of_lt (Int.natCast_nonneg _) (by omega), u32_or_nat _ _ (by omega) (by omega)]
  rw [Nat.mul_comm] at h0
  rw [Nat.or_comm, ← h0, Nat.add_comm]
theorem ld2 (F : Nat → Nat) (A : Nat) (hA : A < 4294967296) : ld F A 2 = F A + F ((A + 1) % 4294967296) * 256 := by
  simp [ld, Nat.mod_eq_of_lt hA]
theorem ld4 (F : Nat → Nat) (A : Nat) (hA : A < 4294967296) : ld F A 4 = F A + F ((A + 1) % 4294967296) * 256 + F ((A + 2) % 4294967296) * 65536 + F ((A + 3) % 4294967296) * 16777216 := by
  simp [ld, Nat.mod_eq_of_lt hA]
theorem halves (F : Nat → Nat) (A : Nat) (hA : A < 4294967296) (hF : ∀ x, F x < 256) : ((ld F A 4 : Int) == bits BinOp.or IntKind.u32 (ld F A 2 : Int) (IntKind.u32.wrap ((ld F ((A + 2) % 4294967296) 2 : Int) * 65536))) = true := by
  have h1 := or_sh (ld F A 2) (ld F ((A + 2) % 4294967296) 2) 16 (ld_lt F A 2 hF) (by have := ld_lt F ((A + 2) % 4294967296) 2 hF; omega) (by omega)
  have h2 : (((2 ^ 16 : Nat) : Nat) : Int) = 65536 := by decide
  rw [h2] at h1
  rw [h1, ld4 F A hA, ld2 F A hA, ld2 F _ (Nat.mod_lt _ (by decide))]
  rw [show ((A + 2) % 4294967296 + 1) % 4294967296 = (A + 3) % 4294967296 by omega]
  rw [beq_iff_eq]
  congr 1
  omega
theorem or_sh8 (x y s : Nat) (hx : x < 2 ^ s) (hy : y < 256) (hs : s ≤ 24) : Go.bits .or .u32 (x : Int) (IntKind.u32.wrap (IntKind.u32.wrap (y : Int) * ((2 ^ s : Nat) : Int))) = ((x + y * 2 ^ s : Nat) : Int) := by
  have e : IntKind.u32.wrap (y : Int) = (y : Int) := by rw [u32_wrap]; omega
  rw [e]
  refine or_sh x y s hx ?_ (by omega)
  have h2 : 2 ^ s ≤ 2 ^ 24 := Nat.pow_le_pow_right (by decide) hs
  have h3 : (2 : Nat) ^ 24 = 16777216 := by decide
  rw [h3] at h2
  have h1 : y * 2 ^ s ≤ 255 * 2 ^ s := Nat.mul_le_mul_right _ (by omega)
  omega
theorem four (b0 b1 b2 b3 x : Nat) (h0 : b0 < 256) (h1 : b1 < 256) (h2 : b2 < 256) (h3 : b3 < 256) (hx : x = b0 + b1 * 256 + b2 * 65536 + b3 * 16777216) :
    ((x : Int) == bits BinOp.or IntKind.u32 (bits BinOp.or IntKind.u32 (bits BinOp.or IntKind.u32 (IntKind.u32.wrap (b0 : Int)) (IntKind.u32.wrap (IntKind.u32.wrap (b1 : Int) * 256))) (IntKind.u32.wrap (IntKind.u32.wrap (b2 : Int) * 65536))) (IntKind.u32.wrap (IntKind.u32.wrap (b3 : Int) * 16777216))) = true := by
  have e0 : IntKind.u32.wrap (b0 : Int) = (b0 : Int) := by rw [u32_wrap]; omega
  have e1 := or_sh8 b0 b1 8 (by omega) h1 (by omega)
  have e2 := or_sh8 (b0 + b1 * 2 ^ 8) b2 16 (by omega) h2 (by omega)
  have e3 := or_sh8 (b0 + b1 * 2 ^ 8 + b2 * 2 ^ 16) b3 24 (by omega) h3 (by omega)
  rw [show ((2 ^ 8 : Nat) : Int) = 256 by decide] at e1
  rw [show ((2 ^ 16 : Nat) : Int) = 65536 by decide] at e2
  rw [show ((2 ^ 24 : Nat) : Int) = 16777216 by decide] at e3
  rw [e0, e1, e2, e3, beq_iff_eq, hx]
theorem bt_strB (f : Nat → Nat) (a k i : Nat) (hi : i < k) (hf : ∀ x, f x < 256) : bt (strB f a k) i = f ((a + i) % 4294967296) := by
  have e : (strB f a k).data.toList = ((List.range k).map (fun i => (nth f a i : Int))).map fun n => UInt8.ofNat n.toNat := strOfNums_data _
  unfold bt
  rw [Array.getD_eq_getD_getElem?, ← Array.getElem?_toList, e]
  simp [hi, nth]
  exact hf _
theorem strB_size (f : Nat → Nat) (a k : Nat) : (strB f a k).size = k := by
  rw [strB, strOfNums_size]; simp
theorem and63 {t : Int} (h : (Lit.int .i64 t).wf = true) : ∃ t0 : Nat, Go.bits .and .i64 t 63 = (t0 : Int) ∧ t0 < 64 := by
  have e1 : (BitVec.ofInt 64 t).toNat = (t % 18446744073709551616).toNat := by rw [BitVec.toNat_ofInt]; rfl
  have e2 : (BitVec.ofInt 64 63).toNat = 2 ^ 6 - 1 := by decide
  have e : Go.bits .and .i64 t 63 = t % 64 := by
    show IntKind.i64.wrap ((BitVec.ofInt 64 t &&& BitVec.ofInt 64 63).toNat : Int) = _
    rw [BitVec.toNat_and, e1, e2, Nat.and_two_pow_sub_one_eq_mod, Int.natCast_emod, Int.toNat_of_nonneg (by omega), IntKind.wrap_i64]
    omega
  exact ⟨(t % 64).toNat, by rw [e]; omega, by omega⟩
/-! ### MemSplit -/
set_option maxHeartbeats 3200000 in
theorem walk_MemSplit (a : Int) (s : ByteArray) (t : Int) (W : World) (h0 : (Lit.int .u32 a).wf = true) (hs : s.size ≤ 140737488351232) (h1 : (Lit.int .i64 t).wf = true) :
    Calls Try.prog 6 #[.int .u32 a, .string s, .int .i64 t] W fun e w' => e = .returned (.bool true) ∧ Below W.heap.size W w' := by
  obtain ⟨a, ha, rfl⟩ := nat_of_wf h0
  obtain ⟨t0, ht, htl⟩ : ∃ t0 : Nat, Go.bits .and .i64 t 63 = (t0 : Int) ∧ t0 < 64 := and63 h1
  clear h0 h1
  go_enter Try.func6, Try.ntmps6
  go_wp2_with (go_at_call 9; refine hold_ ?_)
  intro _
  refine (New_named (Below.refl W.heap.size W) (Nat.le_refl _)).mono ?_
  rintro e w1 ⟨p, b, rfl, h1, k1, l1, g1, b1⟩
  have H1 := Lib.hid h1; have B1 := Lib.hid b1; have K1 := Lib.hid k1; have L1 := Lib.hid l1
  clear h1 g1 b1 k1 l1
  go_wp2_with (go_at_call 14; refine hold_ ?_)
  intro _
  obtain ⟨S, hS⟩ : ∃ S, S = s.extract 0 (min (s.size : Int) 40).toNat := ⟨_, rfl⟩
  have hSl : S.size ≤ 40 := by rw [hS]; exact cut_le s 40
  have HS := Lib.hid hS
  rw [← hS]
  clear hS
  refine (Put_at H1.out a _ S rfl (by omega) ha).mono ?_
  rintro e w2 ⟨rfl, h2, g2⟩
  obtain ⟨F, hF⟩ : ∃ F, F = putn (fun _ => 0) a (bt S) S.size := ⟨_, rfl⟩
  rw [← hF] at h2
  have H2 := Lib.hid h2
  have B2 := Lib.hid (B1.out.grown g2 B1.out.size (fun k hk => by cases hk; exact L1.out))
  have HSl := Lib.hid hSl
  clear h2 g2 hF hSl
  obtain ⟨A, hA⟩ : ∃ A, A = (a + t0) % 4294967296 := ⟨_, rfl⟩
  have HA := Lib.hid hA
  have hAl : A < 4294967296 := by omega
  clear hA
  obtain ⟨x4, e4⟩ : ∃ x4, x4 = ld F A 4 := ⟨_, rfl⟩
  obtain ⟨x2, e2⟩ : ∃ x2, x2 = ld F A 2 := ⟨_, rfl⟩
  obtain ⟨y2, f2⟩ : ∃ y2, y2 = ld F ((A + 2) % 4294967296) 2 := ⟨_, rfl⟩
  have E4 := Lib.hid e4; have E2 := Lib.hid e2; have F2 := Lib.hid f2
  clear e4 e2 f2
  go_wp2_with (go_at_call 16; refine hold_ ?_)
  intro _
  refine (Load_at H2.out A 4 x4 _ _ (by have := HA.out; omega) rfl E4.out hAl (Or.inr (Or.inr rfl))).mono ?_
  rintro e w' ⟨rfl, rfl⟩
  go_wp2_with (go_at_call 16; refine hold_ ?_)
  intro _
  refine (Load_at H2.out A 2 x2 _ _ (by have := HA.out; omega) rfl E2.out hAl (Or.inr (Or.inl rfl))).mono ?_
  rintro e w' ⟨rfl, rfl⟩
  go_wp2_with (go_at_call 16; refine hold_ ?_)
  intro _
  refine (Load_at H2.out ((A + 2) % 4294967296) 2 y2 _ _ (by have := HA.out; omega) rfl F2.out (by omega) (Or.inr (Or.inl rfl))).mono ?_
  rintro e w' ⟨rfl, rfl⟩
  go_wp2_with (go_at_call 15; refine hold_ ?_)
  intro _
  obtain ⟨V, hV⟩ : ∃ V, V = strB F A 4 := ⟨_, rfl⟩
  refine (Bytes_at H2.out A 4 _ _ V (by have := HA.out; omega) rfl hV hAl (by omega)).mono ?_
  rintro e w3 ⟨rfl, hb⟩
  have B3 := Lib.hid (B2.out.trans (hb.mono B2.out.size))
  have HV := Lib.hid hV
  have hV0 : ∀ i, (h : i < 4) → bt V i = F ((A + i) % 4294967296) := by rw [hV]; exact fun i h => bt_strB F A 4 i h H2.out.map.2.1
  have HV0 := Lib.hid hV0
  clear hV0
  have hVs : V.size = 4 := by rw [hV]; exact strB_size _ _ _
  clear hb hV
  have hq : ((x4 : Int) == bits BinOp.or IntKind.u32 (x2 : Int) (IntKind.u32.wrap ((y2 : Int) * 65536))) = true := by
    rw [E4.out, E2.out, F2.out]
    exact halves F A hAl H2.out.map.2.1
  have hq2 : ((x4 : Int) == bits BinOp.or IntKind.u32 (bits BinOp.or IntKind.u32 (bits BinOp.or IntKind.u32 (IntKind.u32.wrap ((V[0]'(by omega)).toNat : Int)) (IntKind.u32.wrap (IntKind.u32.wrap ((V[1]'(by omega)).toNat : Int) * 256))) (IntKind.u32.wrap (IntKind.u32.wrap ((V[2]'(by omega)).toNat : Int) * 65536))) (IntKind.u32.wrap (IntKind.u32.wrap ((V[3]'(by omega)).toNat : Int) * 16777216))) = true := by
    refine four _ _ _ _ _ (UInt8.toNat_lt _) (UInt8.toNat_lt _) (UInt8.toNat_lt _) (UInt8.toNat_lt _) ?_
    rw [bt_get, bt_get, bt_get, bt_get, HV0.out 0 (by omega), HV0.out 1 (by omega), HV0.out 2 (by omega), HV0.out 3 (by omega), E4.out, ld4 F A hAl, show (A + 0) % 4294967296 = A by omega]
  go_wp2
  go_still_tail 29, (by kernel_rfl)
  change wpList _ _ _ _ _ w3.drew
  have B4 := Lib.hid B3.out.drew
  generalize w3.drew = w4 at *
  go_wp2_with (go_at_call 13; refine hold_ ?_)
  intro _
  refine (fixed_calls _).mono ?_
  rintro e w5 ⟨rfl, hb⟩
  have B5 := Lib.hid (B4.out.trans (hb.mono B4.out.size))
  clear hb
  go_wp2
  go_ret
  exact ⟨by simp, B5.out⟩

  skip
end Go.Proofs.Ytoaifpiiofpdaaa.Mm
