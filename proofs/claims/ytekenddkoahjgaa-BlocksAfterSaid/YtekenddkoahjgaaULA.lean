import Derived.Test.YtekenddkoahjgaaUQx10
import Derived.Test.YtekenddkoahjgaaUQx11
import Derived.Test.YtekenddkoahjgaaUQx12
import Derived.Test.YtekenddkoahjgaaUQx13
import Derived.Test.YtekenddkoahjgaaUQx14
import Derived.Test.YtekenddkoahjgaaUQx15
import Derived.Test.YtekenddkoahjgaaUQx17
import Derived.Test.YtekenddkoahjgaaUQx2
import Derived.Test.YtekenddkoahjgaaUQx28
import Derived.Test.YtekenddkoahjgaaUQx5
import Derived.Test.YtekenddkoahjgaaUQx6
import Derived.Test.YtekenddkoahjgaaUQx7
import Derived.Test.YtekenddkoahjgaaUQx8
import Derived.Test.YtekenddkoahjgaaUQx9
import Derived.Laws.BitsAllLaws
import Derived.Laws.BitsLemmas
/- Layers 1 and 2, plain: what the printed functions come to. -/
namespace Go.Proofs.Ytekenddkoahjgaa.Q
open Go.RowKit Go.Proofs.YtekenddkoahjgaaW.PrintWords Go.Proofs.YtekenddkoahjgaaW.PrintLast Go.Proofs.YtekenddkoahjgaaW.PrintMore
set_option linter.unusedVariables false
set_option linter.unusedSimpArgs false
def bl (f : Nat → Nat) (n : Nat) : List Int := (List.range 32).map fun j => if j < n then ((f j : Nat) : Int) else 0
def May (p n : Int) : Prop := 0 ≤ p ∧ p < 32 ∧ 1 ≤ n ∧ n ≤ 32 - p
instance (p n : Int) : Decidable (May p n) := by unfold May; infer_instance
theorem two_pow_le (j n : Nat) (h : j ≤ n) : 2 ^ j ≤ 2 ^ n := Nat.pow_le_pow_right (by omega) h
def put (w : Nat) (p n : Int) (v : Nat) : Nat := if May p n then (w &&& (4294967295 - (2 ^ n.toNat - 1) * 2 ^ p.toNat)) ||| (v % 2 ^ n.toNat) * 2 ^ p.toNat else w
theorem u64_id (x : Int) (h0 : 0 ≤ x) (h1 : x < 18446744073709551616) : IntKind.u64.wrap x = x := by rw [IntKind.wrap_u64]; omega
theorem of_i64 {x : Int} (h : (Lit.int .i64 x).wf = true) : -9223372036854775808 ≤ x ∧ x ≤ 9223372036854775807 := by
 simp [Lit.wf, IntKind.min, IntKind.max, IntKind.signed, IntKind.bits] at h
 exact ⟨by omega, by omega⟩
theorem and_i64 (x : Int) (h : -9223372036854775808 ≤ x ∧ x ≤ 9223372036854775807) (n : Nat) (hn : n ≤ 32) : Go.bits .and .i64 x ((2 ^ n - 1 : Nat) : Int) = x % ((2 ^ n : Nat) : Int) := by
 have h1 := two_pow_le n 32 hn
 have h0 : 0 < 2 ^ n := Nat.pow_pos (by omega)
 have e1 : (BitVec.ofInt 64 x).toNat = (x % 18446744073709551616).toNat := by rw [BitVec.toNat_ofInt]; rfl
 have e2 : (BitVec.ofInt 64 ((2 ^ n - 1 : Nat) : Int)).toNat = 2 ^ n - 1 := by
  rw [BitVec.ofInt_natCast, BitVec.toNat_ofNat]; exact Nat.mod_eq_of_lt (by omega)
 show IntKind.i64.wrap ((BitVec.ofInt 64 x &&& BitVec.ofInt 64 ((2 ^ n - 1 : Nat) : Int)).toNat : Int) = _
 rw [BitVec.toNat_and, e1, e2, Nat.and_two_pow_sub_one_eq_mod, Int.natCast_emod, Int.toNat_of_nonneg (by omega)]
 have e3 : x % 18446744073709551616 % ((2 ^ n : Nat) : Int) = x % ((2 ^ n : Nat) : Int) := by
  apply Int.emod_emod_of_dvd
  refine ⟨((2 ^ (64 - n) : Nat) : Int), ?_⟩
  rw [← Int.natCast_mul, ← Nat.pow_add, show n + (64 - n) = 64 by omega]
  rfl
 rw [e3, IntKind.wrap_i64]
 have h2 := Int.emod_nonneg x (b := ((2 ^ n : Nat) : Int)) (by omega)
 have h3 := Int.emod_lt_of_pos x (b := ((2 ^ n : Nat) : Int)) (by omega)
 generalize x % ((2 ^ n : Nat) : Int) = r at *
 omega
theorem whole (t : Nat) (ht : t < 18446744073709551616) : Go.bits .or .u64 (IntKind.u64.wrap ((IntKind.u64.wrap (((t / 4294967296 : Nat) : Int))) * 4294967296)) (IntKind.u64.wrap (((t % 4294967296 : Nat) : Int))) = (t : Int) := by
 have h1 : IntKind.u64.wrap (((t / 4294967296 : Nat) : Int)) = ((t / 4294967296 : Nat) : Int) := u64_id _ (by omega) (by omega)
 have h2 : IntKind.u64.wrap (((t / 4294967296 : Nat) : Int) * 4294967296) = ((t / 4294967296 * 4294967296 : Nat) : Int) := by rw [u64_id _ (by omega) (by omega)]; omega
 have h3 : IntKind.u64.wrap (((t % 4294967296 : Nat) : Int)) = ((t % 4294967296 : Nat) : Int) := u64_id _ (by omega) (by omega)
 rw [h1, h2, h3, u64_or_nat _ _ (by omega) (by omega), nat_join 32 _ _ (Nat.mul_mod_left _ _) (Nat.mod_lt _ (by decide))]
 omega
theorem rForm_out (a : Int) (h : ¬ (0 ≤ a ∧ a < 47)) : whetstoneref02_Form.f a = some 0 := by
 unfold whetstoneref02_Form.f
 by_cases h1 : a < 0
 ·rw [if_pos h1]
 ·rw [if_neg h1]
  show (if a ≥ 47 then _ else _) = _
  rw [if_pos (by omega)]
def tellsP (a b c d : Int) (w : Nat) : Prop :=
 ((a = 85 ∨ a = 74) ∧ ((w % 128 : Nat) : Int) = b) ∨ ((a = 82 ∨ a = 72) ∧ ((w % 128 : Nat) : Int) = b ∧ ((w / 4096 % 8 : Nat) : Int) = c ∧ ((w / 33554432 : Nat) : Int) = d)
  ∨ ((a = 73 ∨ a = 83 ∨ a = 66) ∧ ((w % 128 : Nat) : Int) = b ∧ ((w / 4096 % 8 : Nat) : Int) = c)
instance (a b c d : Int) (w : Nat) : Decidable (tellsP a b c d w) := by unfold tellsP; infer_instance
def tk (j w : Nat) : Prop := tellsP (kGet j).1 (kGet j).2.1 (kGet j).2.2.1 (kGet j).2.2.2 w
instance (j w : Nat) : Decidable (tk j w) := by unfold tk; infer_instance
theorem rForm_in : ∀ n : Fin 47, whetstoneref02_Form.f (n.val : Int) = some (kGet n.val).1 := by decide +kernel
theorem rForm_eq (op : Int) : whetstoneref02_Form.f op = some (frm op) := by
 by_cases h : 0 ≤ op ∧ op < 47
 ·obtain ⟨n, rfl⟩ := Int.eq_ofNat_of_zero_le h.1
  rw [rForm_in ⟨n, by omega⟩]
  unfold frm
  rw [if_pos h, Int.toNat_natCast]
 ·rw [rForm_out op h]; unfold frm; rw [if_neg h]
theorem rin_all : ∀ f ∈ [0, 85, 74, 73, 66, 83, 72, 82, 69], whetstoneref02_in.f 200 f (⟨#[85, 74, 73, 72, 82]⟩ : ByteArray) = some (hRd f) ∧ whetstoneref02_in.f 200 f (⟨#[73, 72, 66, 83, 82]⟩ : ByteArray) = some (hR1 f) ∧ whetstoneref02_in.f 200 f (⟨#[66, 83, 82]⟩ : ByteArray) = some (hR2 f) := by decide +kernel
theorem rspan_all : ∀ f ∈ [0, 85, 74, 73, 66, 83, 72, 82, 69], whetstoneref02_span.f 200 f = some (if f = 85 then (0, 1048575, 1) else if f = 74 then (-1048576, 1048574, 2) else if f = 73 ∨ f = 83 then (-2048, 2047, 1) else if f = 66 then (-4096, 4094, 2) else if f = 72 then (0, 31, 1) else (0, 0, 1)) := by decide +kernel
theorem rreg_eq (n : Int) (b : Bool) : whetstoneref02_reg.f n b = some (regv b n) := by
 unfold whetstoneref02_reg.f regv
 by_cases h : n = 0
 ·simp [h]
 ·rw [if_neg h]
  cases b
  ·simp [h]
  ·rw [if_pos rfl]
   by_cases h1 : n > 0
   ·rw [if_pos h1]; congr 1; rw [decide_eq_decide]; simp [h]; omega
   ·rw [if_neg h1, decide_eq_false (by omega)]
theorem rtmod1 (m : Int) : (Int.tmod m 1 == 0) = true := by rw [beq_iff_eq]; exact Int.tmod_one m
theorem rRight_eq (a0 a1 a2 a3 a4 : Int) : whetstoneref02_Right.f 200 a0 a1 a2 a3 a4 = some (rightv a0 a1 a2 a3 a4) := by
 unfold whetstoneref02_Right.f rightv
 rw [rForm_eq, obs]
 have hm : frm a0 ∈ [0, 85, 74, 73, 66, 83, 72, 82, 69] := by
  rcases frm_cases a0 with ⟨_, h⟩ | ⟨_, h | h | h | h | h | h | h | h⟩ <;> rw [h] <;> decide
 obtain ⟨i1, i2, i3⟩ := rin_all _ hm
 rw [rspan_all _ hm, obs, i1, i2, i3]
 simp only [obs, rreg_eq]
 rcases frm_cases a0 with ⟨_, h⟩ | ⟨_, h | h | h | h | h | h | h | h⟩
 ·rw [h]; rfl
 all_goals
  rw [h]
  generalize regv _ a1 = p1
  generalize regv _ a2 = p2
  generalize regv _ a3 = p3
  cases p1 <;> cases p2 <;> cases p3 <;> simp [numb, rtmod1, tmod2]
 all_goals first
  | ((repeat' split) <;> simp_all; done)
  | (by_cases h0 : a4 = 0 <;> simp_all <;> omega)
  | ((repeat' split) <;> simp_all <;> omega)
def hit (j w : Nat) : Prop := (j < 45 ∧ tk j w) ∨ (j = 45 ∧ w = 115) ∨ (j = 46 ∧ w = 1048691)
instance (j w : Nat) : Decidable (hit j w) := by unfold hit; infer_instance
end Go.Proofs.Ytekenddkoahjgaa.Q
