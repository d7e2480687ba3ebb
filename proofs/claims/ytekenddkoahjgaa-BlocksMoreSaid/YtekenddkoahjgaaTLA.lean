import Derived.Test.YtekenddkoahjgaaTQx10
import Derived.Test.YtekenddkoahjgaaTQx11
import Derived.Test.YtekenddkoahjgaaTQx12
import Derived.Test.YtekenddkoahjgaaTQx13
import Derived.Test.YtekenddkoahjgaaTQx14
import Derived.Test.YtekenddkoahjgaaTQx15
import Derived.Test.YtekenddkoahjgaaTQx17
import Derived.Test.YtekenddkoahjgaaTQx2
import Derived.Test.YtekenddkoahjgaaTQx28
import Derived.Test.YtekenddkoahjgaaTQx5
import Derived.Test.YtekenddkoahjgaaTQx6
import Derived.Test.YtekenddkoahjgaaTQx7
import Derived.Test.YtekenddkoahjgaaTQx8
import Derived.Test.YtekenddkoahjgaaTQx9
import Derived.Laws.BitsAllLaws
import Derived.Laws.BitsLemmas
/- Layers 1 and 2, plain: what the printed functions come to. -/
namespace Go.Proofs.Ytekenddkoahjgaa.Q
open Go.RowKit Go.Proofs.YtekenddkoahjgaaW.PrintWords Go.Proofs.YtekenddkoahjgaaW.PrintLast Go.Proofs.YtekenddkoahjgaaW.PrintMore
set_option linter.unusedVariables false
set_option linter.unusedSimpArgs false
theorem bit_lt (x i : Nat) : x / 2 ^ i % 2 < 2 := Nat.mod_lt _ (by omega)
theorem bit_of (x i : Nat) : x / 2 ^ i % 2 = (x.testBit i).toNat := by
 rw [Nat.testBit_eq_decide_div_mod_eq]
 have := bit_lt x i
 by_cases h : x / 2 ^ i % 2 = 1
 ·simp [h]
 ·simp [h]; omega
theorem nat_of_bits {x y : Nat} (h : ∀ i, x / 2 ^ i % 2 = y / 2 ^ i % 2) : x = y := by
 apply Nat.eq_of_testBit_eq
 intro i
 have := h i
 rw [bit_of, bit_of] at this
 revert this
 cases x.testBit i <;> cases y.testBit i <;> simp
theorem bit_and (a b i : Nat) : (a &&& b) / 2 ^ i % 2 = (a / 2 ^ i % 2) * (b / 2 ^ i % 2) := by
 rw [bit_of, bit_of, bit_of, Nat.testBit_and]
 cases a.testBit i <;> cases b.testBit i <;> rfl
theorem bit_or (a b i : Nat) : (a ||| b) / 2 ^ i % 2 = (a / 2 ^ i % 2) + (b / 2 ^ i % 2) - (a / 2 ^ i % 2) * (b / 2 ^ i % 2) := by
 rw [bit_of, bit_of, bit_of, Nat.testBit_or]
 cases a.testBit i <;> cases b.testBit i <;> rfl
theorem bit_xor (a b i : Nat) : (a ^^^ b) / 2 ^ i % 2 = ((a / 2 ^ i % 2) + (b / 2 ^ i % 2)) % 2 := by
 rw [bit_of, bit_of, bit_of, Nat.testBit_xor]
 cases a.testBit i <;> cases b.testBit i <;> rfl
theorem bit_shl (a s i : Nat) : (a * 2 ^ s) / 2 ^ i % 2 = if i < s then 0 else a / 2 ^ (i - s) % 2 := by
 rw [bit_of, ← Nat.shiftLeft_eq, Nat.testBit_shiftLeft]
 by_cases h : i < s
 ·simp [h, Nat.not_le.2 h]
 ·simp only [h, if_false]; rw [bit_of]; simp [Nat.not_lt.1 h]
theorem bit_big (a i n : Nat) (h : a < 2 ^ n) (hi : n ≤ i) : a / 2 ^ i % 2 = 0 := by
 rw [Nat.div_eq_of_lt (Nat.lt_of_lt_of_le h (Nat.pow_le_pow_right (by omega) hi))]
def bl (f : Nat → Nat) (n : Nat) : List Int := (List.range 32).map fun j => if j < n then ((f j : Nat) : Int) else 0
def May (p n : Int) : Prop := 0 ≤ p ∧ p < 32 ∧ 1 ≤ n ∧ n ≤ 32 - p
instance (p n : Int) : Decidable (May p n) := by unfold May; infer_instance
theorem may_eq (p n : Int) : word_may.f p n = some (decide (May p n)) := by
 unfold word_may.f wrap64
 by_cases h : May p n
 ·rw [decide_eq_true h]
  unfold May at h
  rw [if_pos (by omega), if_pos (by omega), if_pos (by omega), decide_eq_true (by omega)]
 ·rw [decide_eq_false h]
  unfold May at h
  repeat' split
  ·rw [decide_eq_false (by omega)]
  all_goals rfl
theorem may_nat {p n : Nat} (hp : p < 32) (h1 : 1 ≤ n) (hn : n ≤ 32 - p) : May (p : Int) (n : Int) := by unfold May; omega
theorem two_pow_le (j n : Nat) (h : j ≤ n) : 2 ^ j ≤ 2 ^ n := Nat.pow_le_pow_right (by omega) h
theorem or_one (x : Nat) (h : x % 2 = 0) : x ||| 1 = x + 1 := nat_join 1 x 1 h (by omega)
theorem mask_loop (n : Nat) (hn : n ≤ 32) (d : Nat) : ∀ k j : Nat, j + d = n → d < k →
  word_mask.l0 k ((2 ^ j - 1 : Nat) : Int) (n : Int) (j : Int) = some ((2 ^ n - 1 : Nat) : Int) := by
 induction d with
 | zero =>
  intro k j hj hk
  obtain ⟨k, rfl⟩ : ∃ m, k = m + 1 := ⟨k - 1, by omega⟩
  obtain rfl : j = n := by omega
  simp only [word_mask.l0]; rw [if_neg (by omega)]
 | succ d ih =>
  intro k j hj hk
  obtain ⟨k, rfl⟩ : ∃ m, k = m + 1 := ⟨k - 1, by omega⟩
  simp only [word_mask.l0]; rw [if_pos (by omega)]
  have h1 := two_pow_le j 31 (by omega)
  have h0 : 0 < 2 ^ j := Nat.pow_pos (by omega)
  have hs : 2 ^ (j + 1) = 2 * 2 ^ j := by rw [Nat.pow_succ, Nat.mul_comm]
  generalize 2 ^ j = p at h1 h0 hs ⊢
  have e1 : (((p - 1 : Nat) : Int) * 2) % 4294967296 = ((2 * p - 2 : Nat) : Int) := by omega
  rw [e1, show (1 : Int) = ((1 : Nat) : Int) from rfl, u32_or_nat _ _ (by omega) (by omega), or_one _ (by omega)]
  have e2 : wrap64 ((j : Int) + ((1 : Nat) : Int)) = ((j + 1 : Nat) : Int) := by unfold wrap64; omega
  rw [e2, show 2 * p - 2 + 1 = 2 ^ (j + 1) - 1 by omega]
  exact ih k (j + 1) (by omega) (by omega)
theorem mask_eq (n : Nat) (hn : n ≤ 32) (k : Nat) (hk : n < k) : word_mask.f k (n : Int) = some ((2 ^ n - 1 : Nat) : Int) := by
 have h := mask_loop n hn n k 0 (by omega) hk
 exact h
theorem shr_nat (w s : Nat) (hs : s ≤ 32) : shr .u32 (w : Int) (s : Int) = ((w / 2 ^ s : Nat) : Int) := by
 unfold shr
 rw [Int.toNat_natCast, show IntKind.u32.bits = 32 from rfl, Nat.min_eq_left (by omega)]
 simp
theorem Field_may (w p n : Nat) (hw : w < 4294967296) (hp : p < 32) (h1 : 1 ≤ n) (hn : n ≤ 32 - p) (k : Nat) (hk : 32 < k) :
  word_Field.f k (w : Int) (p : Int) (n : Int) = some ((w / 2 ^ p % 2 ^ n : Nat) : Int) := by
 unfold word_Field.f
 rw [may_eq, decide_eq_true (may_nat hp h1 hn)]
 simp only [obs, if_true]
 rw [if_pos (by omega), mask_eq n (by omega) k (by omega)]
 simp only [obs]
 have h2 := two_pow_le n 32 (by omega)
 have h3 : w / 2 ^ p ≤ w := Nat.div_le_self _ _
 have h4 : 0 < 2 ^ n := Nat.pow_pos (by omega)
 rw [shr_nat w p (by omega), u32_and_nat _ _ (by omega) (by omega), Nat.and_two_pow_sub_one_eq_mod]
theorem high_bit (w n : Nat) (h : 1 ≤ n) : w % 2 ^ n / 2 ^ (n - 1) = w / 2 ^ (n - 1) % 2 := by
 have e : 2 ^ n = 2 ^ (n - 1) * 2 := by rw [← Nat.pow_succ]; congr 1; omega
 have := Nat.mod_mul_right_div_self w (2 ^ (n - 1)) 2
 rw [← e] at this
 exact this
def sgn (w : Nat) (n : Int) : Nat :=
 if 1 ≤ n ∧ n ≤ 31 then (if w / 2 ^ (n.toNat - 1) % 2 = 1 then w % 2 ^ n.toNat + (4294967296 - 2 ^ n.toNat) else w % 2 ^ n.toNat) else w
theorem add_or (x y n : Nat) (hx : x < 2 ^ n) (hy : y % 2 ^ n = 0) : x + y = y ||| x := by
 rw [nat_join n y x hy hx, Nat.add_comm]
theorem not_nat (x : Nat) (hx : x < 4294967296) : Go.bits .xor .u32 4294967295 (x : Int) = ((4294967295 - x : Nat) : Int) := by
 rw [show (4294967295 : Int) = ((4294967295 : Nat) : Int) from rfl, u32_xor_nat _ _ (by omega) hx]
 congr 1
 apply nat_of_bits
 intro i
 rw [bit_xor]
 by_cases h : i < 32
 ·have e1 : 4294967295 / 2 ^ i % 2 = 1 := by
   have := Nat.testBit_two_pow_sub_one 32 i
   rw [decide_eq_true h] at this
   rw [bit_of]; exact congrArg Bool.toNat this
  have e2 : (4294967295 - x) / 2 ^ i % 2 = 1 - x / 2 ^ i % 2 := by
   have := Nat.testBit_two_pow_sub_succ (x := x) (n := 32) hx i
   rw [decide_eq_true h, Bool.true_and] at this
   rw [bit_of, bit_of, show 4294967295 - x = 2 ^ 32 - (x + 1) by omega, this]
   cases x.testBit i <;> rfl
  rw [e1, e2]
  have := bit_lt x i
  omega
 ·rw [bit_big _ _ 32 (by omega) (by omega), bit_big x _ 32 hx (by omega), bit_big _ _ 32 (by omega) (by omega)]
def put (w : Nat) (p n : Int) (v : Nat) : Nat := if May p n then (w &&& (4294967295 - (2 ^ n.toNat - 1) * 2 ^ p.toNat)) ||| (v % 2 ^ n.toNat) * 2 ^ p.toNat else w
theorem u64_id (x : Int) (h0 : 0 ≤ x) (h1 : x < 18446744073709551616) : IntKind.u64.wrap x = x := by rw [IntKind.wrap_u64]; omega
theorem Sign_eq (w : Nat) (hw : w < 4294967296) (n : Int) (k : Nat) (hk : 80 < k) : word_Sign.f k (w : Int) n = some ((sgn w n : Nat) : Int) := by
 obtain ⟨k, rfl⟩ : ∃ m, k = m + 1 := ⟨k - 1, by omega⟩
 unfold word_Sign.f
 by_cases h : 1 ≤ n ∧ n ≤ 31
 ·rw [if_neg (by omega), decide_eq_false (by omega)]
  simp only [word_Sign.j0]
  unfold sgn
  rw [if_neg (by decide), if_pos h]
  obtain ⟨m, rfl⟩ := Int.eq_ofNat_of_zero_le (a := n) (by omega)
  have hp := two_pow_le m 31 (by omega)
  have h0 : 0 < 2 ^ m := Nat.pow_pos (by omega)
  have hlt : w % 2 ^ m < 2 ^ m := Nat.mod_lt _ h0
  have e1 : wrap64 ((m : Int) - 1) = ((m - 1 : Nat) : Int) := by unfold wrap64; omega
  rw [mask_eq m (by omega) k (by omega), obs, u32_and_nat _ _ hw (by omega), Nat.and_two_pow_sub_one_eq_mod, e1, if_pos (by omega), shr_nat _ _ (by omega), high_bit w m (by omega), Int.toNat_natCast]
  by_cases hb : w / 2 ^ (m - 1) % 2 = 1
  ·rw [if_pos (by omega), if_pos hb, obs, not_nat _ (by omega), u32_or_nat _ _ (by omega) (by omega)]
   have e2 : 4294967296 - 2 ^ m = (2 ^ (32 - m) - 1) * 2 ^ m := by
    rw [Nat.sub_mul, ← Nat.pow_add, Nat.one_mul]; congr 1; rw [show 32 - m + m = 32 by omega]
   rw [show 4294967295 - (2 ^ m - 1) = 4294967296 - 2 ^ m by omega, Nat.or_comm, ← add_or _ _ m hlt (by rw [e2]; exact Nat.mul_mod_left _ _)]
  ·rw [if_neg (by omega), if_neg hb]
 ·unfold sgn
  rw [if_neg h]
  by_cases h3 : n < 1
  ·rw [if_pos h3]; simp only [word_Sign.j0, if_true]
  ·rw [if_neg h3, decide_eq_true (by omega)]; simp only [word_Sign.j0, if_true]
theorem and_add_or (n : Nat) : ∀ a b : Nat, a < 2 ^ n → b < 2 ^ n → (a &&& b) + (a ||| b) = a + b ∧ (a ^^^ b) + (a &&& b) = (a ||| b) := by
  induction n with
  | zero => intro a b ha hb; obtain rfl : a = 0 := by omega
            obtain rfl : b = 0 := by omega
            exact ⟨rfl, rfl⟩
  | succ n ih =>
    intro a b ha hb
    rw [Nat.pow_succ] at ha hb
    obtain ⟨h1, h2⟩ := ih (a / 2) (b / 2) (by omega) (by omega)
    have d1 : (a &&& b) / 2 = a / 2 &&& b / 2 := Nat.and_div_two
    have d2 : (a ||| b) / 2 = a / 2 ||| b / 2 := Nat.or_div_two
    have d3 : (a ^^^ b) / 2 = a / 2 ^^^ b / 2 := Nat.xor_div_two
    have m1 := bit_and a b 0
    have m2 := bit_or a b 0
    have m3 := bit_xor a b 0
    simp only [Nat.pow_zero, Nat.div_one] at m1 m2 m3
    have h01 : a % 2 = 0 ∨ a % 2 = 1 := by omega
    have h02 : b % 2 = 0 ∨ b % 2 = 1 := by omega
    rcases h01 with h | h <;> rcases h02 with h' | h' <;> rw [h, h'] at m1 m2 m3 <;> constructor <;> omega
theorem fld0 (x n : Nat) (hx : x < 4294967296) (hn1 : 1 ≤ n) (hn2 : n ≤ 32) (k : Nat) (hk : 80 < k) : word_Field.f k (x : Int) 0 (n : Int) = some ((x % 2 ^ n : Nat) : Int) := by
 have := Field_may x 0 n hx (by omega) hn1 (by omega) k (by omega)
 rw [Nat.pow_zero, Nat.div_one] at this
 exact this
theorem whole (t : Nat) (ht : t < 18446744073709551616) : Go.bits .or .u64 (IntKind.u64.wrap ((IntKind.u64.wrap (((t / 4294967296 : Nat) : Int))) * 4294967296)) (IntKind.u64.wrap (((t % 4294967296 : Nat) : Int))) = (t : Int) := by
 have h1 : IntKind.u64.wrap (((t / 4294967296 : Nat) : Int)) = ((t / 4294967296 : Nat) : Int) := u64_id _ (by omega) (by omega)
 have h2 : IntKind.u64.wrap (((t / 4294967296 : Nat) : Int) * 4294967296) = ((t / 4294967296 * 4294967296 : Nat) : Int) := by rw [u64_id _ (by omega) (by omega)]; omega
 have h3 : IntKind.u64.wrap (((t % 4294967296 : Nat) : Int)) = ((t % 4294967296 : Nat) : Int) := u64_id _ (by omega) (by omega)
 rw [h1, h2, h3, u64_or_nat _ _ (by omega) (by omega), nat_join 32 _ _ (Nat.mul_mod_left _ _) (Nat.mod_lt _ (by decide))]
 omega
theorem wrap64_lit (n : Int) (h : -9223372036854775808 ≤ n) (h2 : n ≤ 9223372036854775807) : wrap64 n = n := by unfold wrap64; omega
theorem or_sum {x y : Nat} (m n : Nat) (hx : x &&& m = x) (hy : y &&& n = y) (h : m &&& n = 0) (lx : x < 4294967296) (ly : y < 4294967296) : x ||| y = x + y ∧ (x + y) &&& (m ||| n) = x + y ∧ x + y < 4294967296 := by
 have h0 : x &&& y = 0 := by
  rw [← hx, ← hy, show (x &&& m) &&& (y &&& n) = (x &&& y) &&& (m &&& n) by ac_rfl, h, Nat.and_zero]
 have e := (and_add_or 32 x y lx ly).1
 have e2 : x ||| y = x + y := by omega
 refine ⟨e2, ?_, ?_⟩
 ·rw [← e2]
  apply Nat.eq_of_testBit_eq
  intro i
  have hx' := congrArg (·.testBit i) hx
  have hy' := congrArg (·.testBit i) hy
  simp only [Nat.testBit_and, Nat.testBit_or] at hx' hy' ⊢
  revert hx' hy'
  cases x.testBit i <;> cases y.testBit i <;> cases m.testBit i <;> cases n.testBit i <;> simp
 ·rw [← e2]; exact Nat.or_lt_two_pow (n := 32) lx ly
theorem piece (a s n : Nat) (h : a < 2 ^ n) : (a * 2 ^ s) &&& ((2 ^ n - 1) * 2 ^ s) = a * 2 ^ s := by
 apply nat_of_bits
 intro i
 rw [bit_and, bit_shl, bit_shl]
 by_cases hi : i < s
 ·rw [if_pos hi]; simp
 ·rw [if_neg hi, if_neg hi, bit_of (2 ^ n - 1), Nat.testBit_two_pow_sub_one]
  by_cases hn : i - s < n
  ·simp [hn]
  ·rw [bit_big a (i - s) n h (by omega)]; simp
theorem piece_lt (a s n : Nat) (h : a < 2 ^ n) (hs : n + s ≤ 32) : a * 2 ^ s < 4294967296 := by
 calc a * 2 ^ s < 2 ^ n * 2 ^ s := Nat.mul_lt_mul_of_pos_right h (Nat.pow_pos (by omega))
  _ = 2 ^ (n + s) := (Nat.pow_add ..).symm
  _ ≤ 2 ^ 32 := two_pow_le _ _ hs
theorem mul_small (a s n : Nat) (c : Int) (hc : c = ((2 ^ s : Nat) : Int)) (h : a < 2 ^ n) (hs : n + s ≤ 32) : ((a : Int) * c) % 4294967296 = ((a * 2 ^ s : Nat) : Int) := by
 have := piece_lt a s n h hs
 rw [hc, ← Int.natCast_mul]
 generalize a * 2 ^ s = x at *
 omega
def sig (v n : Nat) : Int := (v : Int) - (if v / 2 ^ (n - 1) % 2 = 1 then ((2 ^ n : Nat) : Int) else 0)
theorem signed_eq (v n : Nat) (h1 : 1 ≤ n) (h2 : n ≤ 31) (hv : v < 2 ^ n) (k : Nat) (hk : 80 < k) : inst_signed.f k (v : Int) (n : Int) = some (sig v n) := by
 have hp := two_pow_le n 31 h2
 unfold inst_signed.f
 rw [Sign_eq v (by omega) _ k hk, obs]
 unfold sgn sig
 rw [if_pos (by omega), Int.toNat_natCast, Nat.mod_eq_of_lt hv]
 have hn : 2 ^ n = 2 * 2 ^ (n - 1) := by rw [← Nat.pow_succ']; congr 1; omega
 have hb : v / 2 ^ (n - 1) < 2 := by rw [Nat.div_lt_iff_lt_mul (Nat.pow_pos (by omega))]; omega
 congr 1
 by_cases h : v / 2 ^ (n - 1) % 2 = 1
 ·rw [if_pos h, if_pos h]
  generalize 2 ^ n = x at *
  unfold wrap64 wrap32
  omega
 ·rw [if_neg h, if_neg h]
  have h0 : v / 2 ^ (n - 1) = 0 := by
   revert h hb; generalize v / 2 ^ (n - 1) = q; omega
  have h3 : v < 2 ^ (n - 1) := by
   rcases Nat.div_eq_zero_iff.1 h0 with h4 | h4
   ·have := Nat.pow_pos (n := n - 1) (show 0 < 2 by omega); omega
   ·exact h4
  generalize 2 ^ (n - 1) = y at *
  unfold wrap64 wrap32
  omega
def immv (f : Int) (w : Nat) : Int :=
 if f = 85 then ((w / 4096 : Nat) : Int)
 else if f = 74 then sig (w / 2147483648 * 1048576 + w / 4096 % 256 * 4096 + w / 1048576 % 2 * 2048 + w / 2097152 % 1024 * 2) 21
 else if f = 73 then sig (w / 1048576) 12
 else if f = 83 then sig (w / 33554432 * 32 + w / 128 % 32) 12
 else if f = 66 then sig (w / 2147483648 * 4096 + w / 128 % 2 * 2048 + w / 33554432 % 64 * 32 + w / 256 % 16 * 2) 13
 else if f = 72 then ((w / 1048576 % 32 : Nat) : Int)
 else 0
theorem top_mod (w p n : Nat) (hw : w < 4294967296) (h : p + n = 32) : w / 2 ^ p % 2 ^ n = w / 2 ^ p := by
 apply Nat.mod_eq_of_lt
 rw [Nat.div_lt_iff_lt_mul (Nat.pow_pos (by omega)), ← Nat.pow_add, show n + p = 32 by omega]
 exact hw
theorem wrap64_nat (a : Nat) (h : a < 4294967296) : wrap64 (a : Int) = (a : Int) := by unfold wrap64; omega
theorem imm_eq (f : Int) (w : Nat) (hw : w < 4294967296) (k : Nat) (hk : 80 < k) : inst_imm.f k f (w : Int) = some (immv f w) := by
 have F (p n : Nat) (hp : p < 32) (h1 : 1 ≤ n) (hn : n ≤ 32 - p) := Field_may w p n hw hp h1 hn k (by omega)
 unfold inst_imm.f immv
 by_cases h1 : f = 85
 ·rw [if_pos h1, if_pos h1]
  have f1 : word_Field.f k (w : Int) 12 20 = _ := F 12 20 (by decide) (by decide) (by decide)
  rw [f1, obs, top_mod w 12 20 hw (by decide)]
  have : w / 2 ^ 12 ≤ w := Nat.div_le_self _ _
  rw [wrap64_nat _ (by omega)]
 rw [if_neg h1, if_neg h1]
 by_cases h2 : f = 74
 ·rw [if_pos h2, if_pos h2]
  have f1 : word_Field.f k (w : Int) 31 1 = some ((w / 2 ^ 31 % 2 ^ 1 : Nat) : Int) := F 31 1 (by decide) (by decide) (by decide)
  have l1 : w / 2 ^ 31 % 2 ^ 1 < 2 ^ 1 := Nat.mod_lt _ (by decide)
  have f2 : word_Field.f k (w : Int) 12 8 = some ((w / 2 ^ 12 % 2 ^ 8 : Nat) : Int) := F 12 8 (by decide) (by decide) (by decide)
  have l2 : w / 2 ^ 12 % 2 ^ 8 < 2 ^ 8 := Nat.mod_lt _ (by decide)
  have f3 : word_Field.f k (w : Int) 20 1 = some ((w / 2 ^ 20 % 2 ^ 1 : Nat) : Int) := F 20 1 (by decide) (by decide) (by decide)
  have l3 : w / 2 ^ 20 % 2 ^ 1 < 2 ^ 1 := Nat.mod_lt _ (by decide)
  have f4 : word_Field.f k (w : Int) 21 10 = some ((w / 2 ^ 21 % 2 ^ 10 : Nat) : Int) := F 21 10 (by decide) (by decide) (by decide)
  have l4 : w / 2 ^ 21 % 2 ^ 10 < 2 ^ 10 := Nat.mod_lt _ (by decide)
  rw [f1, obs, f2, obs, f3, obs, f4, obs]
  have s1 : (((w / 2 ^ 31 % 2 ^ 1 : Nat) : Int) * 1048576) % 4294967296 = _ := mul_small _ 20 1 _ rfl l1 (by decide)
  have p1 := piece _ 20 1 l1
  have b1 := piece_lt _ 20 1 l1 (by decide)
  have s2 : (((w / 2 ^ 12 % 2 ^ 8 : Nat) : Int) * 4096) % 4294967296 = _ := mul_small _ 12 8 _ rfl l2 (by decide)
  have p2 := piece _ 12 8 l2
  have b2 := piece_lt _ 12 8 l2 (by decide)
  have s3 : (((w / 2 ^ 20 % 2 ^ 1 : Nat) : Int) * 2048) % 4294967296 = _ := mul_small _ 11 1 _ rfl l3 (by decide)
  have p3 := piece _ 11 1 l3
  have b3 := piece_lt _ 11 1 l3 (by decide)
  have s4 : (((w / 2 ^ 21 % 2 ^ 10 : Nat) : Int) * 2) % 4294967296 = _ := mul_small _ 1 10 _ rfl l4 (by decide)
  have p4 := piece _ 1 10 l4
  have b4 := piece_lt _ 1 10 l4 (by decide)
  rw [s1, s2, s3, s4]
  obtain ⟨e2, q2, r2⟩ := or_sum _ _ p1 p2 (by decide +kernel) b1 b2
  obtain ⟨e3, q3, r3⟩ := or_sum _ _ q2 p3 (by decide +kernel) r2 b3
  obtain ⟨e4, q4, r4⟩ := or_sum _ _ q3 p4 (by decide +kernel) r3 b4
  rw [u32_or_nat _ _ b1 b2, e2]
  rw [u32_or_nat _ _ r2 b3, e3]
  rw [u32_or_nat _ _ r3 b4, e4]
  have g : inst_signed.f k ((w / 2 ^ 31 % 2 ^ 1 * 2 ^ 20 + w / 2 ^ 12 % 2 ^ 8 * 2 ^ 12 + w / 2 ^ 20 % 2 ^ 1 * 2 ^ 11 + w / 2 ^ 21 % 2 ^ 10 * 2 ^ 1 : Nat) : Int) 21 = _ := signed_eq (w / 2 ^ 31 % 2 ^ 1 * 2 ^ 20 + w / 2 ^ 12 % 2 ^ 8 * 2 ^ 12 + w / 2 ^ 20 % 2 ^ 1 * 2 ^ 11 + w / 2 ^ 21 % 2 ^ 10 * 2 ^ 1) 21 (by decide) (by decide) ?_ k hk
  ·rw [g, obs, top_mod w 31 1 hw (by decide)]
  ·clear f1 p1 b1 f2 p2 b2 f3 p3 b3 f4 p4 b4 F s1 s2 s3 s4 e2 q2 r2 e3 q3 r3 e4 q4 r4
   generalize w / 2 ^ 31 % 2 ^ 1 = a1 at *
   generalize w / 2 ^ 12 % 2 ^ 8 = a2 at *
   generalize w / 2 ^ 20 % 2 ^ 1 = a3 at *
   generalize w / 2 ^ 21 % 2 ^ 10 = a4 at *
   omega
 rw [if_neg h2, if_neg h2]
 by_cases h3 : f = 73
 ·rw [if_pos h3, if_pos h3]
  have f1 : word_Field.f k (w : Int) 20 12 = _ := F 20 12 (by decide) (by decide) (by decide)
  have g : inst_signed.f k ((w / 2 ^ 20 % 2 ^ 12 : Nat) : Int) 12 = _ := signed_eq _ 12 (by decide) (by decide) (Nat.mod_lt _ (by decide)) k hk
  rw [f1, obs, g, obs, top_mod w 20 12 hw (by decide)]
 rw [if_neg h3, if_neg h3]
 by_cases h4 : f = 83
 ·rw [if_pos h4, if_pos h4]
  have f1 : word_Field.f k (w : Int) 25 7 = some ((w / 2 ^ 25 % 2 ^ 7 : Nat) : Int) := F 25 7 (by decide) (by decide) (by decide)
  have l1 : w / 2 ^ 25 % 2 ^ 7 < 2 ^ 7 := Nat.mod_lt _ (by decide)
  have f2 : word_Field.f k (w : Int) 7 5 = some ((w / 2 ^ 7 % 2 ^ 5 : Nat) : Int) := F 7 5 (by decide) (by decide) (by decide)
  have l2 : w / 2 ^ 7 % 2 ^ 5 < 2 ^ 5 := Nat.mod_lt _ (by decide)
  rw [f1, obs, f2, obs]
  have s1 : (((w / 2 ^ 25 % 2 ^ 7 : Nat) : Int) * 32) % 4294967296 = _ := mul_small _ 5 7 _ rfl l1 (by decide)
  have p1 := piece _ 5 7 l1
  have b1 := piece_lt _ 5 7 l1 (by decide)
  have p2 : w / 2 ^ 7 % 2 ^ 5 &&& (2 ^ 5 - 1) = w / 2 ^ 7 % 2 ^ 5 := by rw [Nat.and_two_pow_sub_one_eq_mod, Nat.mod_mod]
  have b2 : w / 2 ^ 7 % 2 ^ 5 < 4294967296 := by omega
  rw [s1]
  obtain ⟨e2, q2, r2⟩ := or_sum _ _ p1 p2 (by decide +kernel) b1 b2
  rw [u32_or_nat _ _ b1 b2, e2]
  have g : inst_signed.f k ((w / 2 ^ 25 % 2 ^ 7 * 2 ^ 5 + w / 2 ^ 7 % 2 ^ 5 : Nat) : Int) 12 = _ := signed_eq (w / 2 ^ 25 % 2 ^ 7 * 2 ^ 5 + w / 2 ^ 7 % 2 ^ 5) 12 (by decide) (by decide) ?_ k hk
  ·rw [g, obs, top_mod w 25 7 hw (by decide)]
  ·clear f1 p1 b1 f2 p2 b2 F s1 e2 q2 r2
   generalize w / 2 ^ 25 % 2 ^ 7 = a1 at *
   generalize w / 2 ^ 7 % 2 ^ 5 = a2 at *
   omega
 rw [if_neg h4, if_neg h4]
 by_cases h5 : f = 66
 ·rw [if_pos h5, if_pos h5]
  have f1 : word_Field.f k (w : Int) 31 1 = some ((w / 2 ^ 31 % 2 ^ 1 : Nat) : Int) := F 31 1 (by decide) (by decide) (by decide)
  have l1 : w / 2 ^ 31 % 2 ^ 1 < 2 ^ 1 := Nat.mod_lt _ (by decide)
  have f2 : word_Field.f k (w : Int) 7 1 = some ((w / 2 ^ 7 % 2 ^ 1 : Nat) : Int) := F 7 1 (by decide) (by decide) (by decide)
  have l2 : w / 2 ^ 7 % 2 ^ 1 < 2 ^ 1 := Nat.mod_lt _ (by decide)
  have f3 : word_Field.f k (w : Int) 25 6 = some ((w / 2 ^ 25 % 2 ^ 6 : Nat) : Int) := F 25 6 (by decide) (by decide) (by decide)
  have l3 : w / 2 ^ 25 % 2 ^ 6 < 2 ^ 6 := Nat.mod_lt _ (by decide)
  have f4 : word_Field.f k (w : Int) 8 4 = some ((w / 2 ^ 8 % 2 ^ 4 : Nat) : Int) := F 8 4 (by decide) (by decide) (by decide)
  have l4 : w / 2 ^ 8 % 2 ^ 4 < 2 ^ 4 := Nat.mod_lt _ (by decide)
  rw [f1, obs, f2, obs, f3, obs, f4, obs]
  have s1 : (((w / 2 ^ 31 % 2 ^ 1 : Nat) : Int) * 4096) % 4294967296 = _ := mul_small _ 12 1 _ rfl l1 (by decide)
  have p1 := piece _ 12 1 l1
  have b1 := piece_lt _ 12 1 l1 (by decide)
  have s2 : (((w / 2 ^ 7 % 2 ^ 1 : Nat) : Int) * 2048) % 4294967296 = _ := mul_small _ 11 1 _ rfl l2 (by decide)
  have p2 := piece _ 11 1 l2
  have b2 := piece_lt _ 11 1 l2 (by decide)
  have s3 : (((w / 2 ^ 25 % 2 ^ 6 : Nat) : Int) * 32) % 4294967296 = _ := mul_small _ 5 6 _ rfl l3 (by decide)
  have p3 := piece _ 5 6 l3
  have b3 := piece_lt _ 5 6 l3 (by decide)
  have s4 : (((w / 2 ^ 8 % 2 ^ 4 : Nat) : Int) * 2) % 4294967296 = _ := mul_small _ 1 4 _ rfl l4 (by decide)
  have p4 := piece _ 1 4 l4
  have b4 := piece_lt _ 1 4 l4 (by decide)
  rw [s1, s2, s3, s4]
  obtain ⟨e2, q2, r2⟩ := or_sum _ _ p1 p2 (by decide +kernel) b1 b2
  obtain ⟨e3, q3, r3⟩ := or_sum _ _ q2 p3 (by decide +kernel) r2 b3
  obtain ⟨e4, q4, r4⟩ := or_sum _ _ q3 p4 (by decide +kernel) r3 b4
  rw [u32_or_nat _ _ b1 b2, e2]
  rw [u32_or_nat _ _ r2 b3, e3]
  rw [u32_or_nat _ _ r3 b4, e4]
  have g : inst_signed.f k ((w / 2 ^ 31 % 2 ^ 1 * 2 ^ 12 + w / 2 ^ 7 % 2 ^ 1 * 2 ^ 11 + w / 2 ^ 25 % 2 ^ 6 * 2 ^ 5 + w / 2 ^ 8 % 2 ^ 4 * 2 ^ 1 : Nat) : Int) 13 = _ := signed_eq (w / 2 ^ 31 % 2 ^ 1 * 2 ^ 12 + w / 2 ^ 7 % 2 ^ 1 * 2 ^ 11 + w / 2 ^ 25 % 2 ^ 6 * 2 ^ 5 + w / 2 ^ 8 % 2 ^ 4 * 2 ^ 1) 13 (by decide) (by decide) ?_ k hk
  ·rw [g, obs, top_mod w 31 1 hw (by decide)]
  ·clear f1 p1 b1 f2 p2 b2 f3 p3 b3 f4 p4 b4 F s1 s2 s3 s4 e2 q2 r2 e3 q3 r3 e4 q4 r4
   generalize w / 2 ^ 31 % 2 ^ 1 = a1 at *
   generalize w / 2 ^ 7 % 2 ^ 1 = a2 at *
   generalize w / 2 ^ 25 % 2 ^ 6 = a3 at *
   generalize w / 2 ^ 8 % 2 ^ 4 = a4 at *
   omega
 rw [if_neg h5, if_neg h5]
 by_cases h6 : f = 72
 ·rw [if_pos h6, if_pos h6]
  have f1 : word_Field.f k (w : Int) 20 5 = _ := F 20 5 (by decide) (by decide) (by decide)
  rw [f1, obs, wrap64_nat _ (by omega)]
 rw [if_neg h6, if_neg h6]
def tellsP (a b c d : Int) (w : Nat) : Prop :=
 ((a = 85 ∨ a = 74) ∧ ((w % 128 : Nat) : Int) = b) ∨ ((a = 82 ∨ a = 72) ∧ ((w % 128 : Nat) : Int) = b ∧ ((w / 4096 % 8 : Nat) : Int) = c ∧ ((w / 33554432 : Nat) : Int) = d)
  ∨ ((a = 73 ∨ a = 83 ∨ a = 66) ∧ ((w % 128 : Nat) : Int) = b ∧ ((w / 4096 % 8 : Nat) : Int) = c)
instance (a b c d : Int) (w : Nat) : Decidable (tellsP a b c d w) := by unfold tellsP; infer_instance
theorem beq_dec (x y : Int) : (x == y) = decide (x = y) := by
 by_cases h : x = y
 ·rw [beq_iff_eq.mpr h, decide_eq_true h]
 ·rw [beq_eq_false_iff_ne.mpr h, decide_eq_false h]
theorem tells_eq (a b c d : Int) (w : Nat) (hw : w < 4294967296) (k : Nat) (hk : 90 < k) : inst_tells.f k a b c d (w : Int) = some (decide (tellsP a b c d w)) := by
 obtain ⟨k, rfl⟩ : ∃ m, k = m + 3 := ⟨k - 3, by omega⟩
 have f1 (k : Nat) (hk : 80 < k) : word_Field.f k (w : Int) 0 7 = some ((w % 128 : Nat) : Int) := fld0 w 7 hw (by decide) (by decide) k hk
 have f2 (k : Nat) (hk : 80 < k) : word_Field.f k (w : Int) 12 3 = some ((w / 4096 % 8 : Nat) : Int) := Field_may w 12 3 hw (by decide) (by decide) (by decide) k (by omega)
 have f3 (k : Nat) (hk : 80 < k) : word_Field.f k (w : Int) 25 7 = some ((w / 33554432 : Nat) : Int) := by
  have := Field_may w 25 7 hw (by decide) (by decide) (by decide) k (by omega)
  rw [top_mod w 25 7 hw (by decide)] at this
  exact this
 unfold inst_tells.f
 have hj1 : ∀ k, 83 < k → (a = 82 ∨ a = 72) → inst_tells.j1 k (w : Int) a true a b c d = some (decide (tellsP a b c d w)) := by
  intro k hk ha
  obtain ⟨k, rfl⟩ : ∃ m, k = m + 1 := ⟨k - 1, by omega⟩
  simp only [inst_tells.j1]
  rw [if_true, f1 k (by omega), obs, f2 k (by omega), obs, f3 k (by omega), obs]
  by_cases e1 : ((w % 128 : Nat) : Int) = b
  ·rw [if_pos e1]
   by_cases e2 : ((w / 4096 % 8 : Nat) : Int) = c
   ·rw [if_pos e2, beq_dec]; congr 1; rw [decide_eq_decide]; unfold tellsP; constructor
    ·intro e; exact Or.inr (Or.inl ⟨ha, e1, e2, e⟩)
    ·rintro (⟨h, _⟩ | ⟨_, _, _, e⟩ | ⟨h, _⟩) <;> first | exact e | (exfalso; omega)
   ·rw [if_neg e2, decide_eq_false]
    rintro (⟨h, _⟩ | ⟨_, _, e, _⟩ | ⟨h, _⟩) <;> first | exact e2 e | omega
  ·rw [if_neg e1, decide_eq_false]
   rintro (⟨h, _⟩ | ⟨_, e, _, _⟩ | ⟨h, _⟩) <;> first | exact e1 e | omega
 have hj2 : ∀ k, 83 < k → (a = 73 ∨ a = 83 ∨ a = 66) → inst_tells.j2 k (w : Int) true a b c d = some (decide (tellsP a b c d w)) := by
  intro k hk ha
  obtain ⟨k, rfl⟩ : ∃ m, k = m + 1 := ⟨k - 1, by omega⟩
  simp only [inst_tells.j2]
  rw [if_true, f1 k (by omega), obs, f2 k (by omega), obs]
  by_cases e1 : ((w % 128 : Nat) : Int) = b
  ·rw [if_pos e1, beq_dec]; congr 1; rw [decide_eq_decide]; unfold tellsP; constructor
   ·intro e; exact Or.inr (Or.inr ⟨ha, e1, e⟩)
   ·rintro (⟨h, _⟩ | ⟨h, _, _, _⟩ | ⟨_, _, e⟩) <;> first | exact e | (exfalso; omega)
  ·rw [if_neg e1, decide_eq_false]
   rintro (⟨h, _⟩ | ⟨h, _, _, _⟩ | ⟨_, e, _⟩) <;> first | exact e1 e | omega
 have hj0 : ∀ k, 83 < k → (a = 85 ∨ a = 74) → inst_tells.j0 k (w : Int) a true a b c d = some (decide (tellsP a b c d w)) := by
  intro k hk ha
  obtain ⟨k, rfl⟩ : ∃ m, k = m + 1 := ⟨k - 1, by omega⟩
  simp only [inst_tells.j0]
  rw [if_true, f1 k (by omega), obs, beq_dec]; congr 1; rw [decide_eq_decide]; unfold tellsP; constructor
  ·intro e; exact Or.inl ⟨ha, e⟩
  ·rintro (⟨_, e⟩ | ⟨h, _, _, _⟩ | ⟨h, _, _⟩) <;> first | exact e | (exfalso; omega)
 by_cases h1 : a = 85
 ·rw [if_pos h1, show (a == 85) = true from beq_iff_eq.mpr h1, hj0 _ (by omega) (Or.inl h1)]
 rw [if_neg h1]
 by_cases h2 : a = 74
 ·rw [show (a == 74) = true from beq_iff_eq.mpr h2, hj0 _ (by omega) (Or.inr h2)]
 rw [show (a == 74) = false from beq_eq_false_iff_ne.mpr h2]
 simp only [inst_tells.j0]
 rw [if_neg (by decide)]
 by_cases h3 : a = 82
 ·rw [if_pos h3, show (a == 82) = true from beq_iff_eq.mpr h3, hj1 _ (by omega) (Or.inl h3)]
 rw [if_neg h3]
 by_cases h4 : a = 72
 ·rw [show (a == 72) = true from beq_iff_eq.mpr h4, hj1 _ (by omega) (Or.inr h4)]
 rw [show (a == 72) = false from beq_eq_false_iff_ne.mpr h4]
 simp only [inst_tells.j1]
 rw [if_neg (by decide)]
 by_cases h5 : a = 73
 ·rw [if_pos h5, show (a == 73) = true from beq_iff_eq.mpr h5, hj2 _ (by omega) (Or.inl h5)]
 rw [if_neg h5]
 by_cases h6 : a = 83
 ·rw [if_pos h6, show (a == 83) = true from beq_iff_eq.mpr h6, hj2 _ (by omega) (Or.inr (Or.inl h6))]
 rw [if_neg h6]
 by_cases h7 : a = 66
 ·rw [show (a == 66) = true from beq_iff_eq.mpr h7, hj2 _ (by omega) (Or.inr (Or.inr h7))]
 rw [show (a == 66) = false from beq_eq_false_iff_ne.mpr h7]
 simp only [inst_tells.j2]
 rw [if_neg (by decide), decide_eq_false]
 rintro (⟨h, _⟩ | ⟨h, _⟩ | ⟨h, _⟩) <;> omega
theorem rows_ok : ∀ n : Fin 45, kGet n.val = ((kGet n.val).1, (((kGet n.val).2.1.toNat : Nat) : Int), (((kGet n.val).2.2.1.toNat : Nat) : Int), (((kGet n.val).2.2.2.toNat : Nat) : Int)) ∧ (kGet n.val).2.1.toNat < 128 ∧ (kGet n.val).2.1.toNat % 4 = 3 ∧ (kGet n.val).2.1.toNat ≠ 115 ∧ (kGet n.val).2.2.1.toNat < 8 ∧ (kGet n.val).2.2.2.toNat < 128 ∧ (kGet n.val).2.2.2.toNat % 32 = 0 ∨
  kGet n.val = ((kGet n.val).1, (((kGet n.val).2.1.toNat : Nat) : Int), (((kGet n.val).2.2.1.toNat : Nat) : Int), (((kGet n.val).2.2.2.toNat : Nat) : Int)) ∧ (kGet n.val).2.1.toNat < 128 ∧ (kGet n.val).2.1.toNat % 4 = 3 ∧ (kGet n.val).2.1.toNat ≠ 115 ∧ (kGet n.val).2.2.1.toNat < 8 ∧ (kGet n.val).2.2.2.toNat < 128 ∧ (kGet n.val).1 = 82 := by decide +kernel
theorem rows_form : ∀ n : Fin 45, ((kGet n.val).1 = 85 ∨ (kGet n.val).1 = 74 ∨ (kGet n.val).1 = 73 ∨ (kGet n.val).1 = 66 ∨ (kGet n.val).1 = 83 ∨ (kGet n.val).1 = 72 ∨ (kGet n.val).1 = 82) ∧ ((kGet n.val).1 = 85 ∨ (kGet n.val).1 = 74 → (kGet n.val).2.2.1.toNat = 0 ∧ (kGet n.val).2.2.2.toNat = 0) ∧ ((kGet n.val).1 = 73 ∨ (kGet n.val).1 = 83 ∨ (kGet n.val).1 = 66 → (kGet n.val).2.2.2.toNat = 0) := by decide +kernel
structure Row (n : Nat) (a : Int) (b c d : Nat) : Prop where
 get : kGet n = (a, (b : Int), (c : Int), (d : Int))
 hb : b < 128
 h4 : b % 4 = 3
 h115 : b ≠ 115
 hc : c < 8
 hd : d < 128
 form : a = 85 ∨ a = 74 ∨ a = 73 ∨ a = 66 ∨ a = 83 ∨ a = 72 ∨ a = 82
 up : a = 85 ∨ a = 74 → c = 0 ∧ d = 0
 mid : a = 73 ∨ a = 83 ∨ a = 66 → d = 0
theorem row_at (n : Nat) (hn : n < 45) : ∃ a b c d, Row n a b c d := by
 obtain ⟨h1, h2, h3⟩ := rows_form ⟨n, hn⟩
 rcases rows_ok ⟨n, hn⟩ with ⟨e1, e2, e3, e4, e5, e6, _⟩ | ⟨e1, e2, e3, e4, e5, e6, _⟩
 ·exact ⟨_, _, _, _, e1, e2, e3, e4, e5, e6, h1, h2, h3⟩
 ·exact ⟨_, _, _, _, e1, e2, e3, e4, e5, e6, h1, h2, h3⟩
def apartB (r s : Int × Int × Int × Int) : Bool :=
 decide (r.1 = 69 ∨ s.1 = 69 ∨ r.2.1 ≠ s.2.1 ∨ ((r.1 ≠ 85 ∧ r.1 ≠ 74 ∧ s.1 ≠ 85 ∧ s.1 ≠ 74) ∧ (r.2.2.1 ≠ s.2.2.1 ∨ ((r.1 = 82 ∨ r.1 = 72) ∧ (s.1 = 82 ∨ s.1 = 72) ∧ r.2.2.2 ≠ s.2.2.2))))
theorem rows_apart : ∀ i j : Fin 47, i = j ∨ apartB (kGet i.val) (kGet j.val) = true := by decide +kernel
theorem tells_one (i j w : Nat) (hi : i < 47) (hj : j < 47) (h1 : tellsP (kGet i).1 (kGet i).2.1 (kGet i).2.2.1 (kGet i).2.2.2 w) (h2 : tellsP (kGet j).1 (kGet j).2.1 (kGet j).2.2.1 (kGet j).2.2.2 w) : i = j := by
 rcases rows_apart ⟨i, hi⟩ ⟨j, hj⟩ with h | h
 ·exact congrArg Fin.val h
 ·exfalso
  have h := of_decide_eq_true h
  simp only at h
  unfold tellsP at h1 h2
  omega
def decx (j w : Nat) : Int × Int × Int × Int × Int × Int :=
 ((j : Int), if hRd (kGet j).1 = true then ((w / 128 % 32 : Nat) : Int) else 0, if hR1 (kGet j).1 = true then ((w / 32768 % 32 : Nat) : Int) else 0, if hR2 (kGet j).1 = true then ((w / 1048576 % 32 : Nat) : Int) else 0, immv (kGet j).1 w, 0)
def tk (j w : Nat) : Prop := tellsP (kGet j).1 (kGet j).2.1 (kGet j).2.2.1 (kGet j).2.2.2 w
instance (j w : Nat) : Decidable (tk j w) := by unfold tk; infer_instance
theorem or_field (c : Bool) (w p : Nat) (hw : w < 4294967296) (hp : p ≤ 27) (k : Nat) (hk : 80 < k) : (if c = true then (word_Field.f k (w : Int) (p : Int) 5).bind fun q => some (wrap64 q) else some 0) = some (if c = true then ((w / 2 ^ p % 32 : Nat) : Int) else 0) := by
 cases c
 ·rfl
 ·rw [if_pos rfl, if_pos rfl, show word_Field.f k (w : Int) (p : Int) 5 = _ from Field_may w p 5 hw (by omega) (by decide) (by omega) k (by omega), obs, show (2 : Nat) ^ 5 = 32 from rfl, wrap64_nat _ (by have := Nat.mod_lt (w / 2 ^ p) (show 0 < 32 by decide); omega)]
theorem Decode_step (w j : Nat) (hw : w < 4294967296) (hj : j < 47) (k : Nat) (hk : 100 < k) : inst_Decode.l0 (k + 1) (w : Int) (j : Int) = if tk j w then some (decx j w) else inst_Decode.l0 k (w : Int) ((j + 1 : Nat) : Int) := by
 simp only [inst_Decode.l0]
 rw [if_pos (by omega), if_pos (by omega), Int.toNat_natCast, tells_eq _ _ _ _ w hw k (by omega), obs]
 by_cases h : tk j w
 ·have h' : tellsP (kGet j).1 (kGet j).2.1 (kGet j).2.2.1 (kGet j).2.2.2 w := h
  rw [if_pos h, if_pos (decide_eq_true h'), imm_eq _ w hw k (by omega), obs, has_eq _ k (by omega), obs]
  have o1 := or_field (hRd (kGet j).1) w 7 hw (by decide) k (by omega)
  have o2 := or_field (hR1 (kGet j).1) w 15 hw (by decide) k (by omega)
  have o3 := or_field (hR2 (kGet j).1) w 20 hw (by decide) k (by omega)
  erw [o1, obs, o2, obs, o3, obs]
  rfl
 ·have h' : ¬ tellsP (kGet j).1 (kGet j).2.1 (kGet j).2.2.1 (kGet j).2.2.2 w := h
  rw [if_neg h, if_neg (by rw [decide_eq_false h']; decide), show wrap64 ((j : Int) + 1) = ((j + 1 : Nat) : Int) by rw [wrap64_lit _ (by omega) (by omega)]; omega]
theorem Decode_from (w : Nat) (hw : w < 4294967296) (d : Nat) : ∀ (j k : Nat), j + d = 47 → 101 + d < k →
  (∀ i, j ≤ i → i < 47 → tk i w → inst_Decode.l0 k (w : Int) (j : Int) = some (decx i w)) ∧ ((∀ i, j ≤ i → i < 47 → ¬ tk i w) → inst_Decode.l0 k (w : Int) (j : Int) = some (0, 0, 0, 0, 0, 20)) := by
 induction d with
 | zero =>
  intro j k hj hk
  obtain ⟨k, rfl⟩ : ∃ m, k = m + 1 := ⟨k - 1, by omega⟩
  refine ⟨fun i h1 h2 => by omega, fun _ => ?_⟩
  simp only [inst_Decode.l0]
  rw [if_neg (by omega)]
 | succ d ih =>
  intro j k hj hk
  obtain ⟨k, rfl⟩ : ∃ m, k = m + 1 := ⟨k - 1, by omega⟩
  rw [Decode_step w j hw (by omega) k (by omega)]
  obtain ⟨i1, i2⟩ := ih (j + 1) k (by omega) (by omega)
  constructor
  ·intro i h1 h2 h3
   by_cases h : tk j w
   ·rw [if_pos h, tells_one i j w h2 (by omega) h3 h]
   ·rw [if_neg h]
    refine i1 i ?_ h2 h3
    rcases Nat.lt_or_ge j i with h4 | h4
    ·omega
    ·exact absurd (show tk j w by rw [show j = i by omega]; exact h3) h
  ·intro h
   rw [if_neg (h j (by omega) (by omega))]
   exact i2 (fun i h1 h2 => h i (by omega) h2)
theorem tk_not (j w : Nat) (hj : j < 47) (h : tk j w) : w % 128 ≠ 115 ∧ j < 45 := by
 by_cases h1 : j < 45
 ·obtain ⟨a, b, c, d, R⟩ := row_at j h1
  refine ⟨?_, h1⟩
  unfold tk tellsP at h
  rw [R.get] at h
  have := R.h115
  simp only at h
  omega
 ·exfalso
  have hk : (kGet j).1 = 69 := by
   rcases (show j = 45 ∨ j = 46 by omega) with rfl | rfl <;> rfl
  unfold tk tellsP at h
  rw [hk] at h
  omega
theorem Decode_some (j w : Nat) (hw : w < 4294967296) (hj : j < 47) (h : tk j w) (k : Nat) (hk : 150 < k) : inst_Decode.f k (w : Int) = some (decx j w) := by
 have h1 := (tk_not j w hj h).1
 unfold inst_Decode.f
 rw [if_neg (by omega), if_neg (by omega)]
 exact (Decode_from w hw 47 0 k (by omega) (by omega)).1 j (by omega) hj h
theorem Decode_none (w : Nat) (hw : w < 4294967296) (h1 : w ≠ 115) (h2 : w ≠ 1048691) (h : ∀ j, j < 47 → ¬ tk j w) (k : Nat) (hk : 150 < k) : inst_Decode.f k (w : Int) = some (0, 0, 0, 0, 0, 20) := by
 unfold inst_Decode.f
 rw [if_neg (by omega), if_neg (by omega)]
 exact (Decode_from w hw 47 0 k (by omega) (by omega)).2 (fun j _ hj => h j hj)
theorem Decode_115 (k : Nat) : inst_Decode.f k (115 : Int) = some (45, 0, 0, 0, 0, 0) := rfl
theorem Decode_ebreak (k : Nat) : inst_Decode.f k (1048691 : Int) = some (46, 0, 0, 0, 0, 0) := rfl
theorem w66 (b c w r1 r2 t1 t2 t3 t4 : Nat) (hw : w < 4294967296) (hb : w % 128 = b) (hc : w / 4096 % 8 = c) (h1 : r1 = w / 32768 % 32) (h2 : r2 = w / 1048576 % 32) (h3 : t1 = w / 2147483648) (h4 : t2 = w / 128 % 2) (h5 : t3 = w / 33554432 % 64) (h6 : t4 = w / 256 % 16) :
  b + c * 4096 + 0 * 33554432 + r1 * 32768 + (t1 * 2147483648 + t2 * 128 + t3 * 33554432 + t4 * 256) + 0 * 128 + r2 * 1048576 = w ∧ t1 < 2 ∧ t2 < 2 ∧ t3 < 64 ∧ t4 < 16 := by omega
theorem Decode_cases (w : Nat) (hw : w < 4294967296) : (∃ j, j < 47 ∧ tk j w ∧ ∀ k, 150 < k → inst_Decode.f k (w : Int) = some (decx j w)) ∨
  (w = 115 ∧ ∀ k, 150 < k → inst_Decode.f k (w : Int) = some (45, 0, 0, 0, 0, 0)) ∨ (w = 1048691 ∧ ∀ k, 150 < k → inst_Decode.f k (w : Int) = some (46, 0, 0, 0, 0, 0)) ∨
  (w ≠ 115 ∧ w ≠ 1048691 ∧ (∀ j, j < 47 → ¬ tk j w) ∧ ∀ k, 150 < k → inst_Decode.f k (w : Int) = some (0, 0, 0, 0, 0, 20)) := by
 by_cases h : ∃ j, j < 47 ∧ tk j w
 ·obtain ⟨j, h1, h2⟩ := h
  exact Or.inl ⟨j, h1, h2, fun k hk => Decode_some j w hw h1 h2 k hk⟩
 have h' : ∀ j, j < 47 → ¬ tk j w := fun j h1 h2 => h ⟨j, h1, h2⟩
 by_cases e1 : w = 115
 ·subst e1; exact Or.inr (Or.inl ⟨rfl, fun k _ => Decode_115 k⟩)
 by_cases e2 : w = 1048691
 ·subst e2; exact Or.inr (Or.inr (Or.inl ⟨rfl, fun k _ => Decode_ebreak k⟩))
 exact Or.inr (Or.inr (Or.inr ⟨e1, e2, h', fun k hk => Decode_none w hw e1 e2 h' k hk⟩))
theorem Decode_tot (w : Nat) (hw : w < 4294967296) : ∃ x, inst_Decode.f 200 (w : Int) = some x ∧ (x.2.2.2.2.2 = 0 ∨ x = (0, 0, 0, 0, 0, 20)) := by
 rcases Decode_cases w hw with ⟨j, j1, j2, j3⟩ | ⟨j1, j3⟩ | ⟨j1, j3⟩ | ⟨_, _, _, j3⟩
 ·exact ⟨_, j3 200 (by decide), Or.inl rfl⟩
 ·exact ⟨_, j3 200 (by decide), Or.inl rfl⟩
 ·exact ⟨_, j3 200 (by decide), Or.inl rfl⟩
 ·exact ⟨_, j3 200 (by decide), Or.inr rfl⟩
def hit (j w : Nat) : Prop := (j < 45 ∧ tk j w) ∨ (j = 45 ∧ w = 115) ∨ (j = 46 ∧ w = 1048691)
instance (j w : Nat) : Decidable (hit j w) := by unfold hit; infer_instance
end Go.Proofs.Ytekenddkoahjgaa.Q
