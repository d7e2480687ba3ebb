import Derived.Test.YtekenddkoahjgaaHQx10
import Derived.Test.YtekenddkoahjgaaHQx14
import Derived.Test.YtekenddkoahjgaaHQx16
import Derived.Test.YtekenddkoahjgaaHQx17
import Derived.Test.YtekenddkoahjgaaHQx5
import Derived.Test.YtekenddkoahjgaaHQx9
import Derived.Laws.BitsAllLaws
import Derived.Laws.BitsLemmas
/- Layers 1 and 2, plain: what the printed functions come to. -/
namespace Go.Proofs.Ytekenddkoahjgaa.Q
open Go.RowKit Go.Proofs.YtekenddkoahjgaaW.PrintWords Go.Proofs.YtekenddkoahjgaaW.PrintLast Go.Proofs.YtekenddkoahjgaaW.PrintMore
set_option linter.unusedVariables false
set_option linter.unusedSimpArgs false
theorem bit_lt (x i : Nat) : x / 2 ^ i % 2 < 2 := Nat.mod_lt _ (by omega)
theorem bit_of (x i : Nat) : x / 2 ^ i % 2 = (x.testBit i).toNat := by
 rw [Nat.testBit_eq_decide_div_mod_eq]
 have := bit_lt x i
 by_cases h : x / 2 ^ i % 2 = 1
 ·simp [h]
 ·simp [h]; omega
theorem nat_of_bits {x y : Nat} (h : ∀ i, x / 2 ^ i % 2 = y / 2 ^ i % 2) : x = y := by
 apply Nat.eq_of_testBit_eq
 intro i
 have := h i
 rw [bit_of, bit_of] at this
 revert this
 cases x.testBit i <;> cases y.testBit i <;> simp
theorem bit_and (a b i : Nat) : (a &&& b) / 2 ^ i % 2 = (a / 2 ^ i % 2) * (b / 2 ^ i % 2) := by
 rw [bit_of, bit_of, bit_of, Nat.testBit_and]
 cases a.testBit i <;> cases b.testBit i <;> rfl
theorem bit_or (a b i : Nat) : (a ||| b) / 2 ^ i % 2 = (a / 2 ^ i % 2) + (b / 2 ^ i % 2) - (a / 2 ^ i % 2) * (b / 2 ^ i % 2) := by
 rw [bit_of, bit_of, bit_of, Nat.testBit_or]
 cases a.testBit i <;> cases b.testBit i <;> rfl
theorem bit_xor (a b i : Nat) : (a ^^^ b) / 2 ^ i % 2 = ((a / 2 ^ i % 2) + (b / 2 ^ i % 2)) % 2 := by
 rw [bit_of, bit_of, bit_of, Nat.testBit_xor]
 cases a.testBit i <;> cases b.testBit i <;> rfl
theorem bit_mod (a n i : Nat) : (a % 2 ^ n) / 2 ^ i % 2 = if i < n then a / 2 ^ i % 2 else 0 := by
 rw [bit_of, Nat.testBit_mod_two_pow]
 by_cases h : i < n
 ·simp only [h, decide_true, Bool.true_and, if_true]; rw [bit_of]
 ·simp [h]
theorem bit_shr (a s i : Nat) : (a / 2 ^ s) / 2 ^ i % 2 = a / 2 ^ (i + s) % 2 := by
 rw [Nat.div_div_eq_div_mul, ← Nat.pow_add, Nat.add_comm]
theorem bit_shl (a s i : Nat) : (a * 2 ^ s) / 2 ^ i % 2 = if i < s then 0 else a / 2 ^ (i - s) % 2 := by
 rw [bit_of, ← Nat.shiftLeft_eq, Nat.testBit_shiftLeft]
 by_cases h : i < s
 ·simp [h, Nat.not_le.2 h]
 ·simp only [h, if_false]; rw [bit_of]; simp [Nat.not_lt.1 h]
theorem bit_big (a i n : Nat) (h : a < 2 ^ n) (hi : n ≤ i) : a / 2 ^ i % 2 = 0 := by
 rw [Nat.div_eq_of_lt (Nat.lt_of_lt_of_le h (Nat.pow_le_pow_right (by omega) hi))]
theorem Of_loop (L : List Int) (N : Nat) (hN : N < 4294967296) (hL : L.length = 32) (hb : ∀ i : Nat, i < 32 → L.getD i 0 = ((N / 2 ^ i % 2 : Nat) : Int)) (d : Nat) :
  ∀ (k : Nat) (i : Int), i + 1 = d → i < 32 → d < k → r01_Of.l0 k L ((N / 2 ^ d : Nat) : Int) i = some ((N : Nat) : Int) := by
 induction d with
 | zero =>
  intro k i hi h2 hk
  obtain ⟨k, rfl⟩ : ∃ m, k = m + 1 := ⟨k - 1, by omega⟩
  simp only [r01_Of.l0]; rw [if_neg (by omega)]; simp
 | succ d ih =>
  intro k i hi h2 hk
  obtain ⟨k, rfl⟩ : ∃ m, k = m + 1 := ⟨k - 1, by omega⟩
  have hd : d < 32 := by omega
  obtain rfl : i = (d : Int) := by omega
  simp only [r01_Of.l0]; rw [if_pos (by omega), if_pos (by omega), if_pos (by omega)]
  have e1 : rd L (d : Int) = ((N / 2 ^ d % 2 : Nat) : Int) := by unfold rd; simpa using hb d hd
  have e2 : wrap64 ((d : Int) - 1) = (d : Int) - 1 := by unfold wrap64; omega
  rw [e1, e2]
  have e3 : N / 2 ^ d = 2 * (N / 2 ^ (d + 1)) + N / 2 ^ d % 2 := by
   rw [Nat.pow_succ, ← Nat.div_div_eq_div_mul]; omega
  have e4 : N / 2 ^ d ≤ N := Nat.div_le_self _ _
  have e5 : (((N / 2 ^ (d + 1) : Nat) : Int) * 2 + ((N / 2 ^ d % 2 : Nat) : Int)) % 4294967296 = ((N / 2 ^ d : Nat) : Int) := by omega
  rw [e5]
  exact ih k (d - 1) (by omega) (by omega) (by omega)
theorem Of_eq (L : List Int) (N : Nat) (hN : N < 4294967296) (hL : L.length = 32) (hb : ∀ i : Nat, i < 32 → L.getD i 0 = ((N / 2 ^ i % 2 : Nat) : Int)) (k : Nat) (hk : 32 < k) :
  r01_Of.f k L = some ((N : Nat) : Int) := by
 have h := Of_loop L N hN hL hb 32 k 31 (by omega) (by omega) hk
 have e : N / 2 ^ 32 = 0 := Nat.div_eq_of_lt (by omega)
 rw [e] at h
 exact h
def bl (f : Nat → Nat) (n : Nat) : List Int := (List.range 32).map fun j => if j < n then ((f j : Nat) : Int) else 0
theorem bl_length (f : Nat → Nat) (n : Nat) : (bl f n).length = 32 := by simp [bl]
theorem bl_zero (f : Nat → Nat) : List.replicate 32 (0 : Int) = bl f 0 := rfl
theorem bl_get (f : Nat → Nat) (n j : Nat) (h : j < 32) : (bl f n).getD j 0 = if j < n then ((f j : Nat) : Int) else 0 := by
 simp [bl, h]
theorem bl_set (f : Nat → Nat) (n : Nat) (h : n < 32) : (bl f n).set n ((f n : Nat) : Int) = bl f (n + 1) := by
 apply List.ext_getElem
 ·simp [bl]
 ·intro i h1 h2
  simp only [bl, List.length_map, List.length_range, List.length_set] at h1 h2
  rw [List.getElem_set]
  simp only [bl, List.getElem_map, List.getElem_range]
  by_cases e : n = i
  ·subst e; simp
  ·rw [if_neg e]
   by_cases h3 : i < n
   ·rw [if_pos h3, if_pos (by omega)]
   ·rw [if_neg h3, if_neg (by omega)]
theorem bl_set' (f : Nat → Nat) (n : Nat) (h : n < 32) (v : Int) (hv : v = ((f n : Nat) : Int)) : (bl f n).set ((n : Int)).toNat v = bl f (n + 1) := by
 subst hv; rw [Int.toNat_natCast]; exact bl_set f n h
theorem Of_bl (f : Nat → Nat) (N n : Nat) (hN : N < 4294967296) (hf : ∀ i, i < 32 → (if i < n then f i else 0) = N / 2 ^ i % 2) (k : Nat) (hk : 32 < k) :
    r01_Of.f k (bl f n) = some ((N : Nat) : Int) :=
  Of_eq _ N hN (bl_length _ _) (fun i hi => by rw [bl_get _ _ _ hi]; rw [← hf i hi]; by_cases h : i < n <;> simp [h]) k hk
theorem Bit_eq (w : Nat) (hw : w < 4294967296) (i : Int) : r01_Bit.f (w : Int) i = some ((if 0 ≤ i ∧ i ≤ 31 then w / 2 ^ i.toNat % 2 else 0 : Nat) : Int) := by
 unfold r01_Bit.f
 by_cases h1 : i < 0
 ·rw [if_pos h1, if_neg (by omega)]; rfl
 ·rw [if_neg h1]
  by_cases h2 : i > 31
  ·rw [if_pos h2, if_neg (by omega)]; rfl
  ·rw [if_neg h2, if_pos (by omega), if_pos (by omega)]
   obtain ⟨j, rfl⟩ := Int.eq_ofNat_of_zero_le (a := i) (by omega)
   have e : shr .u32 (w : Int) (j : Int) = ((w / 2 ^ j : Nat) : Int) := by
    unfold shr
    rw [Int.toNat_natCast, show IntKind.u32.bits = 32 from rfl, Nat.min_eq_left (by omega)]
    simp
   have hle : w / 2 ^ j ≤ w := Nat.div_le_self _ _
   rw [e]
   rw [show (1 : Int) = ((1 : Nat) : Int) from rfl, u32_and_nat _ _ (by omega) (by omega), nat_mask1, Int.toNat_natCast]
def May (p n : Int) : Prop := 0 ≤ p ∧ p < 32 ∧ 1 ≤ n ∧ n ≤ 32 - p
instance (p n : Int) : Decidable (May p n) := by unfold May; infer_instance
theorem may_eq (p n : Int) : word_may.f p n = some (decide (May p n)) := by
 unfold word_may.f wrap64
 by_cases h : May p n
 ·rw [decide_eq_true h]
  unfold May at h
  rw [if_pos (by omega), if_pos (by omega), if_pos (by omega), decide_eq_true (by omega)]
 ·rw [decide_eq_false h]
  unfold May at h
  repeat' split
  ·rw [decide_eq_false (by omega)]
  all_goals rfl
theorem rmay_eq (p n : Int) : r01_may.f p n = some (decide (May p n)) := by
 unfold r01_may.f wrap64
 by_cases h : May p n
 ·rw [decide_eq_true h]
  unfold May at h
  rw [if_pos (by omega), if_pos (by omega), if_pos (by omega), if_pos (by omega), decide_eq_true (by omega)]
 ·rw [decide_eq_false h]
  unfold May at h
  repeat' split
  ·rw [decide_eq_false (by omega)]
  all_goals rfl
theorem may_nat {p n : Nat} (hp : p < 32) (h1 : 1 ≤ n) (hn : n ≤ 32 - p) : May (p : Int) (n : Int) := by unfold May; omega
theorem two_pow_le (j n : Nat) (h : j ≤ n) : 2 ^ j ≤ 2 ^ n := Nat.pow_le_pow_right (by omega) h
theorem or_one (x : Nat) (h : x % 2 = 0) : x ||| 1 = x + 1 := nat_join 1 x 1 h (by omega)
theorem mask_loop (n : Nat) (hn : n ≤ 32) (d : Nat) : ∀ k j : Nat, j + d = n → d < k →
  word_mask.l0 k ((2 ^ j - 1 : Nat) : Int) (n : Int) (j : Int) = some ((2 ^ n - 1 : Nat) : Int) := by
 induction d with
 | zero =>
  intro k j hj hk
  obtain ⟨k, rfl⟩ : ∃ m, k = m + 1 := ⟨k - 1, by omega⟩
  obtain rfl : j = n := by omega
  simp only [word_mask.l0]; rw [if_neg (by omega)]
 | succ d ih =>
  intro k j hj hk
  obtain ⟨k, rfl⟩ : ∃ m, k = m + 1 := ⟨k - 1, by omega⟩
  simp only [word_mask.l0]; rw [if_pos (by omega)]
  have h1 := two_pow_le j 31 (by omega)
  have h0 : 0 < 2 ^ j := Nat.pow_pos (by omega)
  have hs : 2 ^ (j + 1) = 2 * 2 ^ j := by rw [Nat.pow_succ, Nat.mul_comm]
  generalize 2 ^ j = p at h1 h0 hs ⊢
  have e1 : (((p - 1 : Nat) : Int) * 2) % 4294967296 = ((2 * p - 2 : Nat) : Int) := by omega
  rw [e1, show (1 : Int) = ((1 : Nat) : Int) from rfl, u32_or_nat _ _ (by omega) (by omega), or_one _ (by omega)]
  have e2 : wrap64 ((j : Int) + ((1 : Nat) : Int)) = ((j + 1 : Nat) : Int) := by unfold wrap64; omega
  rw [e2, show 2 * p - 2 + 1 = 2 ^ (j + 1) - 1 by omega]
  exact ih k (j + 1) (by omega) (by omega)
theorem mask_eq (n : Nat) (hn : n ≤ 32) (k : Nat) (hk : n < k) : word_mask.f k (n : Int) = some ((2 ^ n - 1 : Nat) : Int) := by
 have h := mask_loop n hn n k 0 (by omega) hk
 exact h
theorem shr_nat (w s : Nat) (hs : s ≤ 32) : shr .u32 (w : Int) (s : Int) = ((w / 2 ^ s : Nat) : Int) := by
 unfold shr
 rw [Int.toNat_natCast, show IntKind.u32.bits = 32 from rfl, Nat.min_eq_left (by omega)]
 simp
theorem shl_nat (w s : Nat) (hs : s ≤ 32) : shl .u32 (w : Int) (s : Int) = ((w * 2 ^ s % 4294967296 : Nat) : Int) := by
 unfold shl
 rw [Int.toNat_natCast, show IntKind.u32.bits = 32 from rfl, Nat.min_eq_left (by omega), IntKind.wrap_u32']
 simp
theorem mod_lt32 (x n : Nat) (hn : n ≤ 32) : x % 2 ^ n < 4294967296 :=
 Nat.lt_of_lt_of_le (Nat.mod_lt _ (Nat.pow_pos (by omega))) (two_pow_le n 32 hn)
theorem Field_may (w p n : Nat) (hw : w < 4294967296) (hp : p < 32) (h1 : 1 ≤ n) (hn : n ≤ 32 - p) (k : Nat) (hk : 32 < k) :
  word_Field.f k (w : Int) (p : Int) (n : Int) = some ((w / 2 ^ p % 2 ^ n : Nat) : Int) := by
 unfold word_Field.f
 rw [may_eq, decide_eq_true (may_nat hp h1 hn)]
 simp only [obs, if_true]
 rw [if_pos (by omega), mask_eq n (by omega) k (by omega)]
 simp only [obs]
 have h2 := two_pow_le n 32 (by omega)
 have h3 : w / 2 ^ p ≤ w := Nat.div_le_self _ _
 have h4 : 0 < 2 ^ n := Nat.pow_pos (by omega)
 rw [shr_nat w p (by omega), u32_and_nat _ _ (by omega) (by omega), Nat.and_two_pow_sub_one_eq_mod]
theorem rField_loop (w p n : Nat) (hw : w < 4294967296) (hp : p < 32) (h1 : 1 ≤ n) (hn : n ≤ 32 - p) (d : Nat) : ∀ k j : Nat, j + d = n → d + 33 < k →
  r01_Field.l0 k (w : Int) (p : Int) (n : Int) (bl (fun i => w / 2 ^ (p + i) % 2) j) (j : Int) = some ((w / 2 ^ p % 2 ^ n : Nat) : Int) := by
 induction d with
 | zero =>
  intro k j hj hk
  obtain ⟨k, rfl⟩ : ∃ m, k = m + 1 := ⟨k - 1, by omega⟩
  obtain rfl : j = n := by omega
  simp only [r01_Field.l0]; rw [if_neg (by omega)]
  rw [Of_bl _ (w / 2 ^ p % 2 ^ j) _ (mod_lt32 _ _ (by omega)) ?_ k (by omega)]
  ·simp only [obs]
  intro i hi
  rw [bit_mod, bit_shr, Nat.add_comm i p]
 | succ d ih =>
  intro k j hj hk
  obtain ⟨k, rfl⟩ : ∃ m, k = m + 1 := ⟨k - 1, by omega⟩
  simp only [r01_Field.l0]; rw [if_pos (by omega), rmay_eq, decide_eq_true (may_nat hp h1 hn)]
  simp only [obs, if_true]
  have e1 : wrap64 ((p : Int) + (j : Int)) = ((p + j : Nat) : Int) := by unfold wrap64; omega
  have e3 : r01_Bit.f (w : Int) ((p + j : Nat) : Int) = some ((w / 2 ^ (p + j) % 2 : Nat) : Int) := by
   rw [Bit_eq w hw, if_pos (by omega), Int.toNat_natCast]
  rw [e1, e3]
  simp only [obs]
  rw [if_pos (by omega), if_pos (by rw [bl_length]; omega), bl_set' (fun i => w / 2 ^ (p + i) % 2) j (by omega) _ rfl]
  have e2 : wrap64 ((j : Int) + 1) = ((j + 1 : Nat) : Int) := by unfold wrap64; omega
  rw [e2]
  exact ih k (j + 1) (by omega) (by omega)
theorem rField_eq (w p n : Nat) (hw : w < 4294967296) (hp : p < 32) (h1 : 1 ≤ n) (hn : n ≤ 32 - p) (k : Nat) (hk : 80 < k) :
  r01_Field.f k (w : Int) (p : Int) (n : Int) = some ((w / 2 ^ p % 2 ^ n : Nat) : Int) := by
 unfold r01_Field.f
 rw [if_pos (by omega), bl_zero (fun i => w / 2 ^ (p + i) % 2)]
 exact rField_loop w p n hw hp h1 hn n k 0 (by omega) (by omega)
theorem Of_none (k : Nat) (hk : 32 < k) : r01_Of.f k (List.replicate 32 0) = some 0 := by
 rw [bl_zero (fun _ => 0)]
 exact Of_bl _ 0 0 (by omega) (fun i _ => by simp) k hk
theorem rField_not (w p n : Int) (h : ¬ May p n) (k : Nat) (hk : 40 < k) : r01_Field.f k w p n = some 0 := by
 unfold r01_Field.f
 rw [if_pos (by omega)]
 obtain ⟨k, rfl⟩ : ∃ m, k = m + 1 := ⟨k - 1, by omega⟩
 simp only [r01_Field.l0]
 rw [rmay_eq, decide_eq_false h]
 have e := Of_none k (by omega)
 simp only [obs, Bool.false_eq_true, if_false, e]
 split <;> rfl
def fld (w : Nat) (p n : Int) : Nat := if May p n then w / 2 ^ p.toNat % 2 ^ n.toNat else 0
theorem rField_all (w : Nat) (hw : w < 4294967296) (p n : Int) (k : Nat) (hk : 80 < k) : r01_Field.f k (w : Int) p n = some ((fld w p n : Nat) : Int) := by
 unfold fld
 by_cases h : May p n
 ·rw [if_pos h]
  obtain ⟨a, b, c, d⟩ := h
  obtain ⟨p, rfl⟩ := Int.eq_ofNat_of_zero_le a
  obtain ⟨n, rfl⟩ := Int.eq_ofNat_of_zero_le (a := n) (by omega)
  exact rField_eq w p n hw (by omega) (by omega) (by omega) k (by omega)
 ·rw [if_neg h]; exact rField_not _ _ _ h k (by omega)
theorem high_bit (w n : Nat) (h : 1 ≤ n) : w % 2 ^ n / 2 ^ (n - 1) = w / 2 ^ (n - 1) % 2 := by
 have e : 2 ^ n = 2 ^ (n - 1) * 2 := by rw [← Nat.pow_succ]; congr 1; omega
 have := Nat.mod_mul_right_div_self w (2 ^ (n - 1)) 2
 rw [← e] at this
 exact this
def sgn (w : Nat) (n : Int) : Nat :=
 if 1 ≤ n ∧ n ≤ 31 then (if w / 2 ^ (n.toNat - 1) % 2 = 1 then w % 2 ^ n.toNat + (4294967296 - 2 ^ n.toNat) else w % 2 ^ n.toNat) else w
theorem add_or (x y n : Nat) (hx : x < 2 ^ n) (hy : y % 2 ^ n = 0) : x + y = y ||| x := by
 rw [nat_join n y x hy hx, Nat.add_comm]
theorem not_nat (x : Nat) (hx : x < 4294967296) : Go.bits .xor .u32 4294967295 (x : Int) = ((4294967295 - x : Nat) : Int) := by
 rw [show (4294967295 : Int) = ((4294967295 : Nat) : Int) from rfl, u32_xor_nat _ _ (by omega) hx]
 congr 1
 apply nat_of_bits
 intro i
 rw [bit_xor]
 by_cases h : i < 32
 ·have e1 : 4294967295 / 2 ^ i % 2 = 1 := by
   have := Nat.testBit_two_pow_sub_one 32 i
   rw [decide_eq_true h] at this
   rw [bit_of]; exact congrArg Bool.toNat this
  have e2 : (4294967295 - x) / 2 ^ i % 2 = 1 - x / 2 ^ i % 2 := by
   have := Nat.testBit_two_pow_sub_succ (x := x) (n := 32) hx i
   rw [decide_eq_true h, Bool.true_and] at this
   rw [bit_of, bit_of, show 4294967295 - x = 2 ^ 32 - (x + 1) by omega, this]
   cases x.testBit i <;> rfl
  rw [e1, e2]
  have := bit_lt x i
  omega
 ·rw [bit_big _ _ 32 (by omega) (by omega), bit_big x _ 32 hx (by omega), bit_big _ _ 32 (by omega) (by omega)]
def put (w : Nat) (p n : Int) (v : Nat) : Nat := if May p n then (w &&& (4294967295 - (2 ^ n.toNat - 1) * 2 ^ p.toNat)) ||| (v % 2 ^ n.toNat) * 2 ^ p.toNat else w
theorem u64_id (x : Int) (h0 : 0 ≤ x) (h1 : x < 18446744073709551616) : IntKind.u64.wrap x = x := by rw [IntKind.wrap_u64]; omega
theorem Sign_eq (w : Nat) (hw : w < 4294967296) (n : Int) (k : Nat) (hk : 80 < k) : word_Sign.f k (w : Int) n = some ((sgn w n : Nat) : Int) := by
 obtain ⟨k, rfl⟩ : ∃ m, k = m + 1 := ⟨k - 1, by omega⟩
 unfold word_Sign.f
 by_cases h : 1 ≤ n ∧ n ≤ 31
 ·rw [if_neg (by omega), decide_eq_false (by omega)]
  simp only [word_Sign.j0]
  unfold sgn
  rw [if_neg (by decide), if_pos h]
  obtain ⟨m, rfl⟩ := Int.eq_ofNat_of_zero_le (a := n) (by omega)
  have hp := two_pow_le m 31 (by omega)
  have h0 : 0 < 2 ^ m := Nat.pow_pos (by omega)
  have hlt : w % 2 ^ m < 2 ^ m := Nat.mod_lt _ h0
  have e1 : wrap64 ((m : Int) - 1) = ((m - 1 : Nat) : Int) := by unfold wrap64; omega
  rw [mask_eq m (by omega) k (by omega), obs, u32_and_nat _ _ hw (by omega), Nat.and_two_pow_sub_one_eq_mod, e1, if_pos (by omega), shr_nat _ _ (by omega), high_bit w m (by omega), Int.toNat_natCast]
  by_cases hb : w / 2 ^ (m - 1) % 2 = 1
  ·rw [if_pos (by omega), if_pos hb, obs, not_nat _ (by omega), u32_or_nat _ _ (by omega) (by omega)]
   have e2 : 4294967296 - 2 ^ m = (2 ^ (32 - m) - 1) * 2 ^ m := by
    rw [Nat.sub_mul, ← Nat.pow_add, Nat.one_mul]; congr 1; rw [show 32 - m + m = 32 by omega]
   rw [show 4294967295 - (2 ^ m - 1) = 4294967296 - 2 ^ m by omega, Nat.or_comm, ← add_or _ _ m hlt (by rw [e2]; exact Nat.mul_mod_left _ _)]
  ·rw [if_neg (by omega), if_neg hb]
 ·unfold sgn
  rw [if_neg h]
  by_cases h3 : n < 1
  ·rw [if_pos h3]; simp only [word_Sign.j0, if_true]
  ·rw [if_neg h3, decide_eq_true (by omega)]; simp only [word_Sign.j0, if_true]
theorem and_add_or (n : Nat) : ∀ a b : Nat, a < 2 ^ n → b < 2 ^ n → (a &&& b) + (a ||| b) = a + b ∧ (a ^^^ b) + (a &&& b) = (a ||| b) := by
  induction n with
  | zero => intro a b ha hb; obtain rfl : a = 0 := by omega
            obtain rfl : b = 0 := by omega
            exact ⟨rfl, rfl⟩
  | succ n ih =>
    intro a b ha hb
    rw [Nat.pow_succ] at ha hb
    obtain ⟨h1, h2⟩ := ih (a / 2) (b / 2) (by omega) (by omega)
    have d1 : (a &&& b) / 2 = a / 2 &&& b / 2 := Nat.and_div_two
    have d2 : (a ||| b) / 2 = a / 2 ||| b / 2 := Nat.or_div_two
    have d3 : (a ^^^ b) / 2 = a / 2 ^^^ b / 2 := Nat.xor_div_two
    have m1 := bit_and a b 0
    have m2 := bit_or a b 0
    have m3 := bit_xor a b 0
    simp only [Nat.pow_zero, Nat.div_one] at m1 m2 m3
    have h01 : a % 2 = 0 ∨ a % 2 = 1 := by omega
    have h02 : b % 2 = 0 ∨ b % 2 = 1 := by omega
    rcases h01 with h | h <;> rcases h02 with h' | h' <;> rw [h, h'] at m1 m2 m3 <;> constructor <;> omega
theorem fld0 (x n : Nat) (hx : x < 4294967296) (hn1 : 1 ≤ n) (hn2 : n ≤ 32) (k : Nat) (hk : 80 < k) : word_Field.f k (x : Int) 0 (n : Int) = some ((x % 2 ^ n : Nat) : Int) := by
 have := Field_may x 0 n hx (by omega) hn1 (by omega) k (by omega)
 rw [Nat.pow_zero, Nat.div_one] at this
 exact this
theorem whole (t : Nat) (ht : t < 18446744073709551616) : Go.bits .or .u64 (IntKind.u64.wrap ((IntKind.u64.wrap (((t / 4294967296 : Nat) : Int))) * 4294967296)) (IntKind.u64.wrap (((t % 4294967296 : Nat) : Int))) = (t : Int) := by
 have h1 : IntKind.u64.wrap (((t / 4294967296 : Nat) : Int)) = ((t / 4294967296 : Nat) : Int) := u64_id _ (by omega) (by omega)
 have h2 : IntKind.u64.wrap (((t / 4294967296 : Nat) : Int) * 4294967296) = ((t / 4294967296 * 4294967296 : Nat) : Int) := by rw [u64_id _ (by omega) (by omega)]; omega
 have h3 : IntKind.u64.wrap (((t % 4294967296 : Nat) : Int)) = ((t % 4294967296 : Nat) : Int) := u64_id _ (by omega) (by omega)
 rw [h1, h2, h3, u64_or_nat _ _ (by omega) (by omega), nat_join 32 _ _ (Nat.mul_mod_left _ _) (Nat.mod_lt _ (by decide))]
 omega
theorem wrap64_lit (n : Int) (h : -9223372036854775808 ≤ n) (h2 : n ≤ 9223372036854775807) : wrap64 n = n := by unfold wrap64; omega
theorem rForm_out (a : Int) (h : ¬ (0 ≤ a ∧ a < 47)) : r02_Form.f a = some 0 := by
 unfold r02_Form.f
 by_cases h1 : a < 0
 ·rw [if_pos h1]
 ·rw [if_neg h1]
  show (if a ≥ 47 then _ else _) = _
  rw [if_pos (by omega)]
theorem or_sum {x y : Nat} (m n : Nat) (hx : x &&& m = x) (hy : y &&& n = y) (h : m &&& n = 0) (lx : x < 4294967296) (ly : y < 4294967296) : x ||| y = x + y ∧ (x + y) &&& (m ||| n) = x + y ∧ x + y < 4294967296 := by
 have h0 : x &&& y = 0 := by
  rw [← hx, ← hy, show (x &&& m) &&& (y &&& n) = (x &&& y) &&& (m &&& n) by ac_rfl, h, Nat.and_zero]
 have e := (and_add_or 32 x y lx ly).1
 have e2 : x ||| y = x + y := by omega
 refine ⟨e2, ?_, ?_⟩
 ·rw [← e2]
  apply Nat.eq_of_testBit_eq
  intro i
  have hx' := congrArg (·.testBit i) hx
  have hy' := congrArg (·.testBit i) hy
  simp only [Nat.testBit_and, Nat.testBit_or] at hx' hy' ⊢
  revert hx' hy'
  cases x.testBit i <;> cases y.testBit i <;> cases m.testBit i <;> cases n.testBit i <;> simp
 ·rw [← e2]; exact Nat.or_lt_two_pow (n := 32) lx ly
theorem piece (a s n : Nat) (h : a < 2 ^ n) : (a * 2 ^ s) &&& ((2 ^ n - 1) * 2 ^ s) = a * 2 ^ s := by
 apply nat_of_bits
 intro i
 rw [bit_and, bit_shl, bit_shl]
 by_cases hi : i < s
 ·rw [if_pos hi]; simp
 ·rw [if_neg hi, if_neg hi, bit_of (2 ^ n - 1), Nat.testBit_two_pow_sub_one]
  by_cases hn : i - s < n
  ·simp [hn]
  ·rw [bit_big a (i - s) n h (by omega)]; simp
def toldv (f : Int) (m : Nat) : Nat :=
 if f = 85 then m % 1048576 * 4096
 else if f = 74 then m / 1048576 % 2 * 2147483648 + m / 4096 % 256 * 4096 + m / 2048 % 2 * 1048576 + m / 2 % 1024 * 2097152
 else if f = 73 ∨ f = 72 then m % 4096 * 1048576
 else if f = 83 then m / 32 % 128 * 33554432 + m % 32 * 128
 else if f = 66 then m / 4096 % 2 * 2147483648 + m / 2048 % 2 * 128 + m / 32 % 64 * 33554432 + m / 2 % 16 * 256
 else 0
theorem shl_small (a s n : Nat) (h : a < 2 ^ n) (hs : n + s ≤ 32) : shl .u32 (a : Int) (s : Int) = ((a * 2 ^ s : Nat) : Int) := by
 rw [shl_nat a s (by omega), Nat.mod_eq_of_lt]
 calc a * 2 ^ s < 2 ^ n * 2 ^ s := Nat.mul_lt_mul_of_pos_right h (Nat.pow_pos (by omega))
  _ = 2 ^ (n + s) := (Nat.pow_add ..).symm
  _ ≤ 2 ^ 32 := two_pow_le _ _ hs
theorem piece_lt (a s n : Nat) (h : a < 2 ^ n) (hs : n + s ≤ 32) : a * 2 ^ s < 4294967296 := by
 calc a * 2 ^ s < 2 ^ n * 2 ^ s := Nat.mul_lt_mul_of_pos_right h (Nat.pow_pos (by omega))
  _ = 2 ^ (n + s) := (Nat.pow_add ..).symm
  _ ≤ 2 ^ 32 := two_pow_le _ _ hs
theorem mul_small (a s n : Nat) (c : Int) (hc : c = ((2 ^ s : Nat) : Int)) (h : a < 2 ^ n) (hs : n + s ≤ 32) : ((a : Int) * c) % 4294967296 = ((a * 2 ^ s : Nat) : Int) := by
 have := piece_lt a s n h hs
 rw [hc, ← Int.natCast_mul]
 generalize a * 2 ^ s = x at *
 omega
def sig (v n : Nat) : Int := (v : Int) - (if v / 2 ^ (n - 1) % 2 = 1 then ((2 ^ n : Nat) : Int) else 0)
theorem signed_eq (v n : Nat) (h1 : 1 ≤ n) (h2 : n ≤ 31) (hv : v < 2 ^ n) (k : Nat) (hk : 80 < k) : inst_signed.f k (v : Int) (n : Int) = some (sig v n) := by
 have hp := two_pow_le n 31 h2
 unfold inst_signed.f
 rw [Sign_eq v (by omega) _ k hk, obs]
 unfold sgn sig
 rw [if_pos (by omega), Int.toNat_natCast, Nat.mod_eq_of_lt hv]
 have hn : 2 ^ n = 2 * 2 ^ (n - 1) := by rw [← Nat.pow_succ']; congr 1; omega
 have hb : v / 2 ^ (n - 1) < 2 := by rw [Nat.div_lt_iff_lt_mul (Nat.pow_pos (by omega))]; omega
 congr 1
 by_cases h : v / 2 ^ (n - 1) % 2 = 1
 ·rw [if_pos h, if_pos h]
  generalize 2 ^ n = x at *
  unfold wrap64 wrap32
  omega
 ·rw [if_neg h, if_neg h]
  have h0 : v / 2 ^ (n - 1) = 0 := by
   revert h hb; generalize v / 2 ^ (n - 1) = q; omega
  have h3 : v < 2 ^ (n - 1) := by
   rcases Nat.div_eq_zero_iff.1 h0 with h4 | h4
   ·have := Nat.pow_pos (n := n - 1) (show 0 < 2 by omega); omega
   ·exact h4
  generalize 2 ^ (n - 1) = y at *
  unfold wrap64 wrap32
  omega
def immv (f : Int) (w : Nat) : Int :=
 if f = 85 then ((w / 4096 : Nat) : Int)
 else if f = 74 then sig (w / 2147483648 * 1048576 + w / 4096 % 256 * 4096 + w / 1048576 % 2 * 2048 + w / 2097152 % 1024 * 2) 21
 else if f = 73 then sig (w / 1048576) 12
 else if f = 83 then sig (w / 33554432 * 32 + w / 128 % 32) 12
 else if f = 66 then sig (w / 2147483648 * 4096 + w / 128 % 2 * 2048 + w / 33554432 % 64 * 32 + w / 256 % 16 * 2) 13
 else if f = 72 then ((w / 1048576 % 32 : Nat) : Int)
 else 0
theorem top_mod (w p n : Nat) (hw : w < 4294967296) (h : p + n = 32) : w / 2 ^ p % 2 ^ n = w / 2 ^ p := by
 apply Nat.mod_eq_of_lt
 rw [Nat.div_lt_iff_lt_mul (Nat.pow_pos (by omega)), ← Nat.pow_add, show n + p = 32 by omega]
 exact hw
theorem wrap64_nat (a : Nat) (h : a < 4294967296) : wrap64 (a : Int) = (a : Int) := by unfold wrap64; omega
theorem imm_eq (f : Int) (w : Nat) (hw : w < 4294967296) (k : Nat) (hk : 80 < k) : inst_imm.f k f (w : Int) = some (immv f w) := by
 have F (p n : Nat) (hp : p < 32) (h1 : 1 ≤ n) (hn : n ≤ 32 - p) := Field_may w p n hw hp h1 hn k (by omega)
 unfold inst_imm.f immv
 by_cases h1 : f = 85
 ·rw [if_pos h1, if_pos h1]
  have f1 : word_Field.f k (w : Int) 12 20 = _ := F 12 20 (by decide) (by decide) (by decide)
  rw [f1, obs, top_mod w 12 20 hw (by decide)]
  have : w / 2 ^ 12 ≤ w := Nat.div_le_self _ _
  rw [wrap64_nat _ (by omega)]
 rw [if_neg h1, if_neg h1]
 by_cases h2 : f = 74
 ·rw [if_pos h2, if_pos h2]
  have f1 : word_Field.f k (w : Int) 31 1 = some ((w / 2 ^ 31 % 2 ^ 1 : Nat) : Int) := F 31 1 (by decide) (by decide) (by decide)
  have l1 : w / 2 ^ 31 % 2 ^ 1 < 2 ^ 1 := Nat.mod_lt _ (by decide)
  have f2 : word_Field.f k (w : Int) 12 8 = some ((w / 2 ^ 12 % 2 ^ 8 : Nat) : Int) := F 12 8 (by decide) (by decide) (by decide)
  have l2 : w / 2 ^ 12 % 2 ^ 8 < 2 ^ 8 := Nat.mod_lt _ (by decide)
  have f3 : word_Field.f k (w : Int) 20 1 = some ((w / 2 ^ 20 % 2 ^ 1 : Nat) : Int) := F 20 1 (by decide) (by decide) (by decide)
  have l3 : w / 2 ^ 20 % 2 ^ 1 < 2 ^ 1 := Nat.mod_lt _ (by decide)
  have f4 : word_Field.f k (w : Int) 21 10 = some ((w / 2 ^ 21 % 2 ^ 10 : Nat) : Int) := F 21 10 (by decide) (by decide) (by decide)
  have l4 : w / 2 ^ 21 % 2 ^ 10 < 2 ^ 10 := Nat.mod_lt _ (by decide)
  rw [f1, obs, f2, obs, f3, obs, f4, obs]
  have s1 : (((w / 2 ^ 31 % 2 ^ 1 : Nat) : Int) * 1048576) % 4294967296 = _ := mul_small _ 20 1 _ rfl l1 (by decide)
  have p1 := piece _ 20 1 l1
  have b1 := piece_lt _ 20 1 l1 (by decide)
  have s2 : (((w / 2 ^ 12 % 2 ^ 8 : Nat) : Int) * 4096) % 4294967296 = _ := mul_small _ 12 8 _ rfl l2 (by decide)
  have p2 := piece _ 12 8 l2
  have b2 := piece_lt _ 12 8 l2 (by decide)
  have s3 : (((w / 2 ^ 20 % 2 ^ 1 : Nat) : Int) * 2048) % 4294967296 = _ := mul_small _ 11 1 _ rfl l3 (by decide)
  have p3 := piece _ 11 1 l3
  have b3 := piece_lt _ 11 1 l3 (by decide)
  have s4 : (((w / 2 ^ 21 % 2 ^ 10 : Nat) : Int) * 2) % 4294967296 = _ := mul_small _ 1 10 _ rfl l4 (by decide)
  have p4 := piece _ 1 10 l4
  have b4 := piece_lt _ 1 10 l4 (by decide)
  rw [s1, s2, s3, s4]
  obtain ⟨e2, q2, r2⟩ := or_sum _ _ p1 p2 (by decide +kernel) b1 b2
  obtain ⟨e3, q3, r3⟩ := or_sum _ _ q2 p3 (by decide +kernel) r2 b3
  obtain ⟨e4, q4, r4⟩ := or_sum _ _ q3 p4 (by decide +kernel) r3 b4
  rw [u32_or_nat _ _ b1 b2, e2]
  rw [u32_or_nat _ _ r2 b3, e3]
  rw [u32_or_nat _ _ r3 b4, e4]
  have g : inst_signed.f k ((w / 2 ^ 31 % 2 ^ 1 * 2 ^ 20 + w / 2 ^ 12 % 2 ^ 8 * 2 ^ 12 + w / 2 ^ 20 % 2 ^ 1 * 2 ^ 11 + w / 2 ^ 21 % 2 ^ 10 * 2 ^ 1 : Nat) : Int) 21 = _ := signed_eq (w / 2 ^ 31 % 2 ^ 1 * 2 ^ 20 + w / 2 ^ 12 % 2 ^ 8 * 2 ^ 12 + w / 2 ^ 20 % 2 ^ 1 * 2 ^ 11 + w / 2 ^ 21 % 2 ^ 10 * 2 ^ 1) 21 (by decide) (by decide) ?_ k hk
  ·rw [g, obs, top_mod w 31 1 hw (by decide)]
  ·clear f1 p1 b1 f2 p2 b2 f3 p3 b3 f4 p4 b4 F s1 s2 s3 s4 e2 q2 r2 e3 q3 r3 e4 q4 r4
   generalize w / 2 ^ 31 % 2 ^ 1 = a1 at *
   generalize w / 2 ^ 12 % 2 ^ 8 = a2 at *
   generalize w / 2 ^ 20 % 2 ^ 1 = a3 at *
   generalize w / 2 ^ 21 % 2 ^ 10 = a4 at *
   omega
 rw [if_neg h2, if_neg h2]
 by_cases h3 : f = 73
 ·rw [if_pos h3, if_pos h3]
  have f1 : word_Field.f k (w : Int) 20 12 = _ := F 20 12 (by decide) (by decide) (by decide)
  have g : inst_signed.f k ((w / 2 ^ 20 % 2 ^ 12 : Nat) : Int) 12 = _ := signed_eq _ 12 (by decide) (by decide) (Nat.mod_lt _ (by decide)) k hk
  rw [f1, obs, g, obs, top_mod w 20 12 hw (by decide)]
 rw [if_neg h3, if_neg h3]
 by_cases h4 : f = 83
 ·rw [if_pos h4, if_pos h4]
  have f1 : word_Field.f k (w : Int) 25 7 = some ((w / 2 ^ 25 % 2 ^ 7 : Nat) : Int) := F 25 7 (by decide) (by decide) (by decide)
  have l1 : w / 2 ^ 25 % 2 ^ 7 < 2 ^ 7 := Nat.mod_lt _ (by decide)
  have f2 : word_Field.f k (w : Int) 7 5 = some ((w / 2 ^ 7 % 2 ^ 5 : Nat) : Int) := F 7 5 (by decide) (by decide) (by decide)
  have l2 : w / 2 ^ 7 % 2 ^ 5 < 2 ^ 5 := Nat.mod_lt _ (by decide)
  rw [f1, obs, f2, obs]
  have s1 : (((w / 2 ^ 25 % 2 ^ 7 : Nat) : Int) * 32) % 4294967296 = _ := mul_small _ 5 7 _ rfl l1 (by decide)
  have p1 := piece _ 5 7 l1
  have b1 := piece_lt _ 5 7 l1 (by decide)
  have p2 : w / 2 ^ 7 % 2 ^ 5 &&& (2 ^ 5 - 1) = w / 2 ^ 7 % 2 ^ 5 := by rw [Nat.and_two_pow_sub_one_eq_mod, Nat.mod_mod]
  have b2 : w / 2 ^ 7 % 2 ^ 5 < 4294967296 := by omega
  rw [s1]
  obtain ⟨e2, q2, r2⟩ := or_sum _ _ p1 p2 (by decide +kernel) b1 b2
  rw [u32_or_nat _ _ b1 b2, e2]
  have g : inst_signed.f k ((w / 2 ^ 25 % 2 ^ 7 * 2 ^ 5 + w / 2 ^ 7 % 2 ^ 5 : Nat) : Int) 12 = _ := signed_eq (w / 2 ^ 25 % 2 ^ 7 * 2 ^ 5 + w / 2 ^ 7 % 2 ^ 5) 12 (by decide) (by decide) ?_ k hk
  ·rw [g, obs, top_mod w 25 7 hw (by decide)]
  ·clear f1 p1 b1 f2 p2 b2 F s1 e2 q2 r2
   generalize w / 2 ^ 25 % 2 ^ 7 = a1 at *
   generalize w / 2 ^ 7 % 2 ^ 5 = a2 at *
   omega
 rw [if_neg h4, if_neg h4]
 by_cases h5 : f = 66
 ·rw [if_pos h5, if_pos h5]
  have f1 : word_Field.f k (w : Int) 31 1 = some ((w / 2 ^ 31 % 2 ^ 1 : Nat) : Int) := F 31 1 (by decide) (by decide) (by decide)
  have l1 : w / 2 ^ 31 % 2 ^ 1 < 2 ^ 1 := Nat.mod_lt _ (by decide)
  have f2 : word_Field.f k (w : Int) 7 1 = some ((w / 2 ^ 7 % 2 ^ 1 : Nat) : Int) := F 7 1 (by decide) (by decide) (by decide)
  have l2 : w / 2 ^ 7 % 2 ^ 1 < 2 ^ 1 := Nat.mod_lt _ (by decide)
  have f3 : word_Field.f k (w : Int) 25 6 = some ((w / 2 ^ 25 % 2 ^ 6 : Nat) : Int) := F 25 6 (by decide) (by decide) (by decide)
  have l3 : w / 2 ^ 25 % 2 ^ 6 < 2 ^ 6 := Nat.mod_lt _ (by decide)
  have f4 : word_Field.f k (w : Int) 8 4 = some ((w / 2 ^ 8 % 2 ^ 4 : Nat) : Int) := F 8 4 (by decide) (by decide) (by decide)
  have l4 : w / 2 ^ 8 % 2 ^ 4 < 2 ^ 4 := Nat.mod_lt _ (by decide)
  rw [f1, obs, f2, obs, f3, obs, f4, obs]
  have s1 : (((w / 2 ^ 31 % 2 ^ 1 : Nat) : Int) * 4096) % 4294967296 = _ := mul_small _ 12 1 _ rfl l1 (by decide)
  have p1 := piece _ 12 1 l1
  have b1 := piece_lt _ 12 1 l1 (by decide)
  have s2 : (((w / 2 ^ 7 % 2 ^ 1 : Nat) : Int) * 2048) % 4294967296 = _ := mul_small _ 11 1 _ rfl l2 (by decide)
  have p2 := piece _ 11 1 l2
  have b2 := piece_lt _ 11 1 l2 (by decide)
  have s3 : (((w / 2 ^ 25 % 2 ^ 6 : Nat) : Int) * 32) % 4294967296 = _ := mul_small _ 5 6 _ rfl l3 (by decide)
  have p3 := piece _ 5 6 l3
  have b3 := piece_lt _ 5 6 l3 (by decide)
  have s4 : (((w / 2 ^ 8 % 2 ^ 4 : Nat) : Int) * 2) % 4294967296 = _ := mul_small _ 1 4 _ rfl l4 (by decide)
  have p4 := piece _ 1 4 l4
  have b4 := piece_lt _ 1 4 l4 (by decide)
  rw [s1, s2, s3, s4]
  obtain ⟨e2, q2, r2⟩ := or_sum _ _ p1 p2 (by decide +kernel) b1 b2
  obtain ⟨e3, q3, r3⟩ := or_sum _ _ q2 p3 (by decide +kernel) r2 b3
  obtain ⟨e4, q4, r4⟩ := or_sum _ _ q3 p4 (by decide +kernel) r3 b4
  rw [u32_or_nat _ _ b1 b2, e2]
  rw [u32_or_nat _ _ r2 b3, e3]
  rw [u32_or_nat _ _ r3 b4, e4]
  have g : inst_signed.f k ((w / 2 ^ 31 % 2 ^ 1 * 2 ^ 12 + w / 2 ^ 7 % 2 ^ 1 * 2 ^ 11 + w / 2 ^ 25 % 2 ^ 6 * 2 ^ 5 + w / 2 ^ 8 % 2 ^ 4 * 2 ^ 1 : Nat) : Int) 13 = _ := signed_eq (w / 2 ^ 31 % 2 ^ 1 * 2 ^ 12 + w / 2 ^ 7 % 2 ^ 1 * 2 ^ 11 + w / 2 ^ 25 % 2 ^ 6 * 2 ^ 5 + w / 2 ^ 8 % 2 ^ 4 * 2 ^ 1) 13 (by decide) (by decide) ?_ k hk
  ·rw [g, obs, top_mod w 31 1 hw (by decide)]
  ·clear f1 p1 b1 f2 p2 b2 f3 p3 b3 f4 p4 b4 F s1 s2 s3 s4 e2 q2 r2 e3 q3 r3 e4 q4 r4
   generalize w / 2 ^ 31 % 2 ^ 1 = a1 at *
   generalize w / 2 ^ 7 % 2 ^ 1 = a2 at *
   generalize w / 2 ^ 25 % 2 ^ 6 = a3 at *
   generalize w / 2 ^ 8 % 2 ^ 4 = a4 at *
   omega
 rw [if_neg h5, if_neg h5]
 by_cases h6 : f = 72
 ·rw [if_pos h6, if_pos h6]
  have f1 : word_Field.f k (w : Int) 20 5 = _ := F 20 5 (by decide) (by decide) (by decide)
  rw [f1, obs, wrap64_nat _ (by omega)]
 rw [if_neg h6, if_neg h6]
def tellsP (a b c d : Int) (w : Nat) : Prop :=
 ((a = 85 ∨ a = 74) ∧ ((w % 128 : Nat) : Int) = b) ∨ ((a = 82 ∨ a = 72) ∧ ((w % 128 : Nat) : Int) = b ∧ ((w / 4096 % 8 : Nat) : Int) = c ∧ ((w / 33554432 : Nat) : Int) = d)
  ∨ ((a = 73 ∨ a = 83 ∨ a = 66) ∧ ((w % 128 : Nat) : Int) = b ∧ ((w / 4096 % 8 : Nat) : Int) = c)
instance (a b c d : Int) (w : Nat) : Decidable (tellsP a b c d w) := by unfold tellsP; infer_instance
theorem beq_dec (x y : Int) : (x == y) = decide (x = y) := by
 by_cases h : x = y
 ·rw [beq_iff_eq.mpr h, decide_eq_true h]
 ·rw [beq_eq_false_iff_ne.mpr h, decide_eq_false h]
theorem tells_eq (a b c d : Int) (w : Nat) (hw : w < 4294967296) (k : Nat) (hk : 90 < k) : inst_tells.f k a b c d (w : Int) = some (decide (tellsP a b c d w)) := by
 obtain ⟨k, rfl⟩ : ∃ m, k = m + 3 := ⟨k - 3, by omega⟩
 have f1 (k : Nat) (hk : 80 < k) : word_Field.f k (w : Int) 0 7 = some ((w % 128 : Nat) : Int) := fld0 w 7 hw (by decide) (by decide) k hk
 have f2 (k : Nat) (hk : 80 < k) : word_Field.f k (w : Int) 12 3 = some ((w / 4096 % 8 : Nat) : Int) := Field_may w 12 3 hw (by decide) (by decide) (by decide) k (by omega)
 have f3 (k : Nat) (hk : 80 < k) : word_Field.f k (w : Int) 25 7 = some ((w / 33554432 : Nat) : Int) := by
  have := Field_may w 25 7 hw (by decide) (by decide) (by decide) k (by omega)
  rw [top_mod w 25 7 hw (by decide)] at this
  exact this
 unfold inst_tells.f
 have hj1 : ∀ k, 83 < k → (a = 82 ∨ a = 72) → inst_tells.j1 k (w : Int) a true a b c d = some (decide (tellsP a b c d w)) := by
  intro k hk ha
  obtain ⟨k, rfl⟩ : ∃ m, k = m + 1 := ⟨k - 1, by omega⟩
  simp only [inst_tells.j1]
  rw [if_true, f1 k (by omega), obs, f2 k (by omega), obs, f3 k (by omega), obs]
  by_cases e1 : ((w % 128 : Nat) : Int) = b
  ·rw [if_pos e1]
   by_cases e2 : ((w / 4096 % 8 : Nat) : Int) = c
   ·rw [if_pos e2, beq_dec]; congr 1; rw [decide_eq_decide]; unfold tellsP; constructor
    ·intro e; exact Or.inr (Or.inl ⟨ha, e1, e2, e⟩)
    ·rintro (⟨h, _⟩ | ⟨_, _, _, e⟩ | ⟨h, _⟩) <;> first | exact e | (exfalso; omega)
   ·rw [if_neg e2, decide_eq_false]
    rintro (⟨h, _⟩ | ⟨_, _, e, _⟩ | ⟨h, _⟩) <;> first | exact e2 e | omega
  ·rw [if_neg e1, decide_eq_false]
   rintro (⟨h, _⟩ | ⟨_, e, _, _⟩ | ⟨h, _⟩) <;> first | exact e1 e | omega
 have hj2 : ∀ k, 83 < k → (a = 73 ∨ a = 83 ∨ a = 66) → inst_tells.j2 k (w : Int) true a b c d = some (decide (tellsP a b c d w)) := by
  intro k hk ha
  obtain ⟨k, rfl⟩ : ∃ m, k = m + 1 := ⟨k - 1, by omega⟩
  simp only [inst_tells.j2]
  rw [if_true, f1 k (by omega), obs, f2 k (by omega), obs]
  by_cases e1 : ((w % 128 : Nat) : Int) = b
  ·rw [if_pos e1, beq_dec]; congr 1; rw [decide_eq_decide]; unfold tellsP; constructor
   ·intro e; exact Or.inr (Or.inr ⟨ha, e1, e⟩)
   ·rintro (⟨h, _⟩ | ⟨h, _, _, _⟩ | ⟨_, _, e⟩) <;> first | exact e | (exfalso; omega)
  ·rw [if_neg e1, decide_eq_false]
   rintro (⟨h, _⟩ | ⟨h, _, _, _⟩ | ⟨_, e, _⟩) <;> first | exact e1 e | omega
 have hj0 : ∀ k, 83 < k → (a = 85 ∨ a = 74) → inst_tells.j0 k (w : Int) a true a b c d = some (decide (tellsP a b c d w)) := by
  intro k hk ha
  obtain ⟨k, rfl⟩ : ∃ m, k = m + 1 := ⟨k - 1, by omega⟩
  simp only [inst_tells.j0]
  rw [if_true, f1 k (by omega), obs, beq_dec]; congr 1; rw [decide_eq_decide]; unfold tellsP; constructor
  ·intro e; exact Or.inl ⟨ha, e⟩
  ·rintro (⟨_, e⟩ | ⟨h, _, _, _⟩ | ⟨h, _, _⟩) <;> first | exact e | (exfalso; omega)
 by_cases h1 : a = 85
 ·rw [if_pos h1, show (a == 85) = true from beq_iff_eq.mpr h1, hj0 _ (by omega) (Or.inl h1)]
 rw [if_neg h1]
 by_cases h2 : a = 74
 ·rw [show (a == 74) = true from beq_iff_eq.mpr h2, hj0 _ (by omega) (Or.inr h2)]
 rw [show (a == 74) = false from beq_eq_false_iff_ne.mpr h2]
 simp only [inst_tells.j0]
 rw [if_neg (by decide)]
 by_cases h3 : a = 82
 ·rw [if_pos h3, show (a == 82) = true from beq_iff_eq.mpr h3, hj1 _ (by omega) (Or.inl h3)]
 rw [if_neg h3]
 by_cases h4 : a = 72
 ·rw [show (a == 72) = true from beq_iff_eq.mpr h4, hj1 _ (by omega) (Or.inr h4)]
 rw [show (a == 72) = false from beq_eq_false_iff_ne.mpr h4]
 simp only [inst_tells.j1]
 rw [if_neg (by decide)]
 by_cases h5 : a = 73
 ·rw [if_pos h5, show (a == 73) = true from beq_iff_eq.mpr h5, hj2 _ (by omega) (Or.inl h5)]
 rw [if_neg h5]
 by_cases h6 : a = 83
 ·rw [if_pos h6, show (a == 83) = true from beq_iff_eq.mpr h6, hj2 _ (by omega) (Or.inr (Or.inl h6))]
 rw [if_neg h6]
 by_cases h7 : a = 66
 ·rw [show (a == 66) = true from beq_iff_eq.mpr h7, hj2 _ (by omega) (Or.inr (Or.inr h7))]
 rw [show (a == 66) = false from beq_eq_false_iff_ne.mpr h7]
 simp only [inst_tells.j2]
 rw [if_neg (by decide), decide_eq_false]
 rintro (⟨h, _⟩ | ⟨h, _⟩ | ⟨h, _⟩) <;> omega
theorem rows_ok : ∀ n : Fin 45, kGet n.val = ((kGet n.val).1, (((kGet n.val).2.1.toNat : Nat) : Int), (((kGet n.val).2.2.1.toNat : Nat) : Int), (((kGet n.val).2.2.2.toNat : Nat) : Int)) ∧ (kGet n.val).2.1.toNat < 128 ∧ (kGet n.val).2.1.toNat % 4 = 3 ∧ (kGet n.val).2.1.toNat ≠ 115 ∧ (kGet n.val).2.2.1.toNat < 8 ∧ (kGet n.val).2.2.2.toNat < 128 ∧ (kGet n.val).2.2.2.toNat % 32 = 0 ∨
  kGet n.val = ((kGet n.val).1, (((kGet n.val).2.1.toNat : Nat) : Int), (((kGet n.val).2.2.1.toNat : Nat) : Int), (((kGet n.val).2.2.2.toNat : Nat) : Int)) ∧ (kGet n.val).2.1.toNat < 128 ∧ (kGet n.val).2.1.toNat % 4 = 3 ∧ (kGet n.val).2.1.toNat ≠ 115 ∧ (kGet n.val).2.2.1.toNat < 8 ∧ (kGet n.val).2.2.2.toNat < 128 ∧ (kGet n.val).1 = 82 := by decide +kernel
theorem rows_form : ∀ n : Fin 45, ((kGet n.val).1 = 85 ∨ (kGet n.val).1 = 74 ∨ (kGet n.val).1 = 73 ∨ (kGet n.val).1 = 66 ∨ (kGet n.val).1 = 83 ∨ (kGet n.val).1 = 72 ∨ (kGet n.val).1 = 82) ∧ ((kGet n.val).1 = 85 ∨ (kGet n.val).1 = 74 → (kGet n.val).2.2.1.toNat = 0 ∧ (kGet n.val).2.2.2.toNat = 0) ∧ ((kGet n.val).1 = 73 ∨ (kGet n.val).1 = 83 ∨ (kGet n.val).1 = 66 → (kGet n.val).2.2.2.toNat = 0) := by decide +kernel
structure Row (n : Nat) (a : Int) (b c d : Nat) : Prop where
 get : kGet n = (a, (b : Int), (c : Int), (d : Int))
 hb : b < 128
 h4 : b % 4 = 3
 h115 : b ≠ 115
 hc : c < 8
 hd : d < 128
 form : a = 85 ∨ a = 74 ∨ a = 73 ∨ a = 66 ∨ a = 83 ∨ a = 72 ∨ a = 82
 up : a = 85 ∨ a = 74 → c = 0 ∧ d = 0
 mid : a = 73 ∨ a = 83 ∨ a = 66 → d = 0
theorem row_at (n : Nat) (hn : n < 45) : ∃ a b c d, Row n a b c d := by
 obtain ⟨h1, h2, h3⟩ := rows_form ⟨n, hn⟩
 rcases rows_ok ⟨n, hn⟩ with ⟨e1, e2, e3, e4, e5, e6, _⟩ | ⟨e1, e2, e3, e4, e5, e6, _⟩
 ·exact ⟨_, _, _, _, e1, e2, e3, e4, e5, e6, h1, h2, h3⟩
 ·exact ⟨_, _, _, _, e1, e2, e3, e4, e5, e6, h1, h2, h3⟩
def apartB (r s : Int × Int × Int × Int) : Bool :=
 decide (r.1 = 69 ∨ s.1 = 69 ∨ r.2.1 ≠ s.2.1 ∨ ((r.1 ≠ 85 ∧ r.1 ≠ 74 ∧ s.1 ≠ 85 ∧ s.1 ≠ 74) ∧ (r.2.2.1 ≠ s.2.2.1 ∨ ((r.1 = 82 ∨ r.1 = 72) ∧ (s.1 = 82 ∨ s.1 = 72) ∧ r.2.2.2 ≠ s.2.2.2))))
theorem rows_apart : ∀ i j : Fin 47, i = j ∨ apartB (kGet i.val) (kGet j.val) = true := by decide +kernel
theorem tells_one (i j w : Nat) (hi : i < 47) (hj : j < 47) (h1 : tellsP (kGet i).1 (kGet i).2.1 (kGet i).2.2.1 (kGet i).2.2.2 w) (h2 : tellsP (kGet j).1 (kGet j).2.1 (kGet j).2.2.1 (kGet j).2.2.2 w) : i = j := by
 rcases rows_apart ⟨i, hi⟩ ⟨j, hj⟩ with h | h
 ·exact congrArg Fin.val h
 ·exfalso
  have h := of_decide_eq_true h
  simp only at h
  unfold tellsP at h1 h2
  omega
def decx (j w : Nat) : Int × Int × Int × Int × Int × Int :=
 ((j : Int), if hRd (kGet j).1 = true then ((w / 128 % 32 : Nat) : Int) else 0, if hR1 (kGet j).1 = true then ((w / 32768 % 32 : Nat) : Int) else 0, if hR2 (kGet j).1 = true then ((w / 1048576 % 32 : Nat) : Int) else 0, immv (kGet j).1 w, 0)
def tk (j w : Nat) : Prop := tellsP (kGet j).1 (kGet j).2.1 (kGet j).2.2.1 (kGet j).2.2.2 w
instance (j w : Nat) : Decidable (tk j w) := by unfold tk; infer_instance
theorem or_field (c : Bool) (w p : Nat) (hw : w < 4294967296) (hp : p ≤ 27) (k : Nat) (hk : 80 < k) : (if c = true then (word_Field.f k (w : Int) (p : Int) 5).bind fun q => some (wrap64 q) else some 0) = some (if c = true then ((w / 2 ^ p % 32 : Nat) : Int) else 0) := by
 cases c
 ·rfl
 ·rw [if_pos rfl, if_pos rfl, show word_Field.f k (w : Int) (p : Int) 5 = _ from Field_may w p 5 hw (by omega) (by decide) (by omega) k (by omega), obs, show (2 : Nat) ^ 5 = 32 from rfl, wrap64_nat _ (by have := Nat.mod_lt (w / 2 ^ p) (show 0 < 32 by decide); omega)]
theorem Decode_step (w j : Nat) (hw : w < 4294967296) (hj : j < 47) (k : Nat) (hk : 100 < k) : inst_Decode.l0 (k + 1) (w : Int) (j : Int) = if tk j w then some (decx j w) else inst_Decode.l0 k (w : Int) ((j + 1 : Nat) : Int) := by
 simp only [inst_Decode.l0]
 rw [if_pos (by omega), if_pos (by omega), Int.toNat_natCast, tells_eq _ _ _ _ w hw k (by omega), obs]
 by_cases h : tk j w
 ·have h' : tellsP (kGet j).1 (kGet j).2.1 (kGet j).2.2.1 (kGet j).2.2.2 w := h
  rw [if_pos h, if_pos (decide_eq_true h'), imm_eq _ w hw k (by omega), obs, has_eq _ k (by omega), obs]
  have o1 := or_field (hRd (kGet j).1) w 7 hw (by decide) k (by omega)
  have o2 := or_field (hR1 (kGet j).1) w 15 hw (by decide) k (by omega)
  have o3 := or_field (hR2 (kGet j).1) w 20 hw (by decide) k (by omega)
  erw [o1, obs, o2, obs, o3, obs]
  rfl
 ·have h' : ¬ tellsP (kGet j).1 (kGet j).2.1 (kGet j).2.2.1 (kGet j).2.2.2 w := h
  rw [if_neg h, if_neg (by rw [decide_eq_false h']; decide), show wrap64 ((j : Int) + 1) = ((j + 1 : Nat) : Int) by rw [wrap64_lit _ (by omega) (by omega)]; omega]
theorem Decode_from (w : Nat) (hw : w < 4294967296) (d : Nat) : ∀ (j k : Nat), j + d = 47 → 101 + d < k →
  (∀ i, j ≤ i → i < 47 → tk i w → inst_Decode.l0 k (w : Int) (j : Int) = some (decx i w)) ∧ ((∀ i, j ≤ i → i < 47 → ¬ tk i w) → inst_Decode.l0 k (w : Int) (j : Int) = some (0, 0, 0, 0, 0, 20)) := by
 induction d with
 | zero =>
  intro j k hj hk
  obtain ⟨k, rfl⟩ : ∃ m, k = m + 1 := ⟨k - 1, by omega⟩
  refine ⟨fun i h1 h2 => by omega, fun _ => ?_⟩
  simp only [inst_Decode.l0]
  rw [if_neg (by omega)]
 | succ d ih =>
  intro j k hj hk
  obtain ⟨k, rfl⟩ : ∃ m, k = m + 1 := ⟨k - 1, by omega⟩
  rw [Decode_step w j hw (by omega) k (by omega)]
  obtain ⟨i1, i2⟩ := ih (j + 1) k (by omega) (by omega)
  constructor
  ·intro i h1 h2 h3
   by_cases h : tk j w
   ·rw [if_pos h, tells_one i j w h2 (by omega) h3 h]
   ·rw [if_neg h]
    refine i1 i ?_ h2 h3
    rcases Nat.lt_or_ge j i with h4 | h4
    ·omega
    ·exact absurd (show tk j w by rw [show j = i by omega]; exact h3) h
  ·intro h
   rw [if_neg (h j (by omega) (by omega))]
   exact i2 (fun i h1 h2 => h i (by omega) h2)
theorem tk_not (j w : Nat) (hj : j < 47) (h : tk j w) : w % 128 ≠ 115 ∧ j < 45 := by
 by_cases h1 : j < 45
 ·obtain ⟨a, b, c, d, R⟩ := row_at j h1
  refine ⟨?_, h1⟩
  unfold tk tellsP at h
  rw [R.get] at h
  have := R.h115
  simp only at h
  omega
 ·exfalso
  have hk : (kGet j).1 = 69 := by
   rcases (show j = 45 ∨ j = 46 by omega) with rfl | rfl <;> rfl
  unfold tk tellsP at h
  rw [hk] at h
  omega
theorem Decode_some (j w : Nat) (hw : w < 4294967296) (hj : j < 47) (h : tk j w) (k : Nat) (hk : 150 < k) : inst_Decode.f k (w : Int) = some (decx j w) := by
 have h1 := (tk_not j w hj h).1
 unfold inst_Decode.f
 rw [if_neg (by omega), if_neg (by omega)]
 exact (Decode_from w hw 47 0 k (by omega) (by omega)).1 j (by omega) hj h
theorem Decode_none (w : Nat) (hw : w < 4294967296) (h1 : w ≠ 115) (h2 : w ≠ 1048691) (h : ∀ j, j < 47 → ¬ tk j w) (k : Nat) (hk : 150 < k) : inst_Decode.f k (w : Int) = some (0, 0, 0, 0, 0, 20) := by
 unfold inst_Decode.f
 rw [if_neg (by omega), if_neg (by omega)]
 exact (Decode_from w hw 47 0 k (by omega) (by omega)).2 (fun j _ hj => h j hj)
theorem Decode_115 (k : Nat) : inst_Decode.f k (115 : Int) = some (45, 0, 0, 0, 0, 0) := rfl
theorem Decode_ebreak (k : Nat) : inst_Decode.f k (1048691 : Int) = some (46, 0, 0, 0, 0, 0) := rfl
theorem frm_row {n : Nat} {a : Int} {b c d : Nat} (R : Row n a b c d) (hn : n < 45) : frm (n : Int) = a := by
 unfold frm
 rw [if_pos (by omega), Int.toNat_natCast, R.get]
theorem right_row {n : Nat} {a : Int} {b c d : Nat} (R : Row n a b c d) (hn : n < 45) (rd rs1 rs2 m : Int) :
  rightv (n : Int) rd rs1 rs2 m = (regv (hRd a) rd && (regv (hR1 a) rs1 && (regv (hR2 a) rs2 && numb a m))) := by
 unfold rightv
 rw [frm_row R hn, decide_eq_true (by have := R.form; omega), Bool.true_and]
theorem regv_nat (b : Bool) (n : Int) (h : regv b n = true) : ∃ x : Nat, n = (x : Int) ∧ x < 32 ∧ (b = false → x = 0) := by
 unfold regv at h
 rcases of_decide_eq_true h with ⟨_, h1, h2⟩ | h1
 ·exact ⟨n.toNat, by omega, by omega, fun e => by simp_all⟩
 ·exact ⟨0, by omega, by omega, fun _ => rfl⟩
theorem regv_of (b : Bool) (x : Nat) (h : x < 32) (h0 : b = false → x = 0) : regv b (x : Int) = true := by
 unfold regv
 apply decide_eq_true
 cases b
 ·right; rw [h0 rfl]; rfl
 ·left; exact ⟨rfl, by omega, by omega⟩
theorem zk (k : Nat) : 0 * k &&& 0 = 0 * k := by rw [Nat.zero_mul, Nat.and_zero]
theorem piece' (a s n M : Nat) (hM : M = (2 ^ n - 1) * 2 ^ s) (h : a < 2 ^ n) : (a * 2 ^ s) &&& M = a * 2 ^ s := by rw [hM]; exact piece a s n h
theorem chain7 (x1 x2 x3 x4 x5 x6 x7 m1 m2 m3 m4 m5 m6 m7 : Nat) (h1 : x1 &&& m1 = x1) (h2 : x2 &&& m2 = x2) (h3 : x3 &&& m3 = x3) (h4 : x4 &&& m4 = x4) (h5 : x5 &&& m5 = x5) (h6 : x6 &&& m6 = x6) (h7 : x7 &&& m7 = x7)
  (l1 : x1 < 4294967296) (l2 : x2 < 4294967296) (l3 : x3 < 4294967296) (l4 : x4 < 4294967296) (l5 : x5 < 4294967296) (l6 : x6 < 4294967296) (l7 : x7 < 4294967296)
  (d : m1 &&& m2 = 0 ∧ (m1 ||| m2) &&& m3 = 0 ∧ ((m1 ||| m2) ||| m3) &&& m4 = 0 ∧ (((m1 ||| m2) ||| m3) ||| m4) &&& m5 = 0 ∧ ((((m1 ||| m2) ||| m3) ||| m4) ||| m5) &&& m6 = 0 ∧ (((((m1 ||| m2) ||| m3) ||| m4) ||| m5) ||| m6) &&& m7 = 0) :
  Go.bits .or .u32 (Go.bits .or .u32 (Go.bits .or .u32 (Go.bits .or .u32 (Go.bits .or .u32 (Go.bits .or .u32 (x1 : Int) (x2 : Int)) (x3 : Int)) (x4 : Int)) (x5 : Int)) (x6 : Int)) (x7 : Int) = ((x1 + x2 + x3 + x4 + x5 + x6 + x7 : Nat) : Int) ∧ x1 + x2 + x3 + x4 + x5 + x6 + x7 < 4294967296 := by
 obtain ⟨d2, d3, d4, d5, d6, d7⟩ := d
 obtain ⟨e2, q2, r2⟩ := or_sum _ _ h1 h2 d2 l1 l2
 obtain ⟨e3, q3, r3⟩ := or_sum _ _ q2 h3 d3 r2 l3
 obtain ⟨e4, q4, r4⟩ := or_sum _ _ q3 h4 d4 r3 l4
 obtain ⟨e5, q5, r5⟩ := or_sum _ _ q4 h5 d5 r4 l5
 obtain ⟨e6, q6, r6⟩ := or_sum _ _ q5 h6 d6 r5 l6
 obtain ⟨e7, q7, r7⟩ := or_sum _ _ q6 h7 d7 r6 l7
 rw [u32_or_nat _ _ l1 l2, e2, u32_or_nat _ _ r2 l3, e3, u32_or_nat _ _ r3 l4, e4, u32_or_nat _ _ r4 l5, e5, u32_or_nat _ _ r5 l6, e6, u32_or_nat _ _ r6 l7, e7]
 exact ⟨rfl, r7⟩
theorem told_mask (f : Int) (m : Nat) : toldv f m < 4294967296 ∧ (f = 85 ∨ f = 74 → toldv f m &&& 4294963200 = toldv f m) ∧ (f = 73 ∨ f = 72 → toldv f m &&& 4293918720 = toldv f m) ∧ (f = 83 ∨ f = 66 → toldv f m &&& 4261416832 = toldv f m) ∧ (f = 82 → toldv f m = 0) ∧
  (f = 72 → m < 32 → toldv f m &&& 32505856 = toldv f m) := by
 unfold toldv
 by_cases h1 : f = 85
 ·rw [if_pos h1]
  have l := Nat.mod_lt m (show 0 < 2 ^ 20 by decide)
  have p := piece' _ 12 20 4294963200 (by decide +kernel) l
  refine ⟨piece_lt _ 12 20 l (by decide), fun _ => p, ?_, ?_, ?_, ?_⟩ <;> intros <;> omega
 rw [if_neg h1]
 by_cases h2 : f = 74
 ·rw [if_pos h2]
  have l1 := Nat.mod_lt (m / 1048576) (show 0 < 2 ^ 1 by decide)
  have l2 := Nat.mod_lt (m / 4096) (show 0 < 2 ^ 8 by decide)
  have l3 := Nat.mod_lt (m / 2048) (show 0 < 2 ^ 1 by decide)
  have l4 := Nat.mod_lt (m / 2) (show 0 < 2 ^ 10 by decide)
  obtain ⟨_, q2, r2⟩ := or_sum _ _ (piece _ 31 1 l1) (piece _ 12 8 l2) (by decide +kernel) (piece_lt _ 31 1 l1 (by decide)) (piece_lt _ 12 8 l2 (by decide))
  obtain ⟨_, q3, r3⟩ := or_sum _ _ q2 (piece _ 20 1 l3) (by decide +kernel) r2 (piece_lt _ 20 1 l3 (by decide))
  obtain ⟨_, q4, r4⟩ := or_sum _ _ q3 (piece _ 21 10 l4) (by decide +kernel) r3 (piece_lt _ 21 10 l4 (by decide))
  refine ⟨r4, fun _ => q4, ?_, ?_, ?_, ?_⟩ <;> (intro h; rw [h2] at h; exact absurd h (by decide))
 rw [if_neg h2]
 by_cases h3 : f = 73 ∨ f = 72
 ·rw [if_pos h3]
  have l := Nat.mod_lt m (show 0 < 2 ^ 12 by decide)
  have p := piece' _ 20 12 4293918720 (by decide +kernel) l
  refine ⟨piece_lt _ 20 12 l (by decide), ?_, fun _ => p, ?_, ?_, ?_⟩
  ·intros; omega
  ·intros; omega
  ·intros; omega
  ·intro _ h
   rw [Nat.mod_eq_of_lt (show m < 4096 by omega)]
   exact piece' m 20 5 32505856 (by decide +kernel) h
 rw [if_neg h3]
 by_cases h5 : f = 83
 ·rw [if_pos h5]
  have l1 := Nat.mod_lt (m / 32) (show 0 < 2 ^ 7 by decide)
  have l2 := Nat.mod_lt m (show 0 < 2 ^ 5 by decide)
  obtain ⟨_, q2, r2⟩ := or_sum _ _ (piece _ 25 7 l1) (piece _ 7 5 l2) (by decide +kernel) (piece_lt _ 25 7 l1 (by decide)) (piece_lt _ 7 5 l2 (by decide))
  refine ⟨r2, ?_, ?_, fun _ => q2, ?_, ?_⟩ <;> intros <;> omega
 rw [if_neg h5]
 by_cases h6 : f = 66
 ·rw [if_pos h6]
  have l1 := Nat.mod_lt (m / 4096) (show 0 < 2 ^ 1 by decide)
  have l2 := Nat.mod_lt (m / 2048) (show 0 < 2 ^ 1 by decide)
  have l3 := Nat.mod_lt (m / 32) (show 0 < 2 ^ 6 by decide)
  have l4 := Nat.mod_lt (m / 2) (show 0 < 2 ^ 4 by decide)
  obtain ⟨_, q2, r2⟩ := or_sum _ _ (piece _ 31 1 l1) (piece _ 7 1 l2) (by decide +kernel) (piece_lt _ 31 1 l1 (by decide)) (piece_lt _ 7 1 l2 (by decide))
  obtain ⟨_, q3, r3⟩ := or_sum _ _ q2 (piece _ 25 6 l3) (by decide +kernel) r2 (piece_lt _ 25 6 l3 (by decide))
  obtain ⟨_, q4, r4⟩ := or_sum _ _ q3 (piece _ 8 4 l4) (by decide +kernel) r3 (piece_lt _ 8 4 l4 (by decide))
  refine ⟨r4, ?_, ?_, fun _ => q4, ?_, ?_⟩ <;> (intro h; rw [h6] at h; exact absurd h (by decide))
 rw [if_neg h6]
 refine ⟨by decide, ?_, ?_, ?_, ?_, ?_⟩ <;> intros <;> first | rfl | omega
def encw (a : Int) (b c d rd r1 r2 m : Nat) : Nat := b + c * 4096 + d * 33554432 + r1 * 32768 + toldv a m + rd * 128 + r2 * 1048576
theorem enc_chain {n : Nat} {a : Int} {b c d : Nat} (R : Row n a b c d) (rd r1 r2 m : Nat) (hrd : rd < 32) (hr1 : r1 < 32) (hr2 : r2 < 32)
  (zd : hRd a = false → rd = 0) (z1 : hR1 a = false → r1 = 0) (z2 : hR2 a = false → r2 = 0) (h72 : a = 72 → m < 32) :
  Go.bits .or .u32 (Go.bits .or .u32 (Go.bits .or .u32 (Go.bits .or .u32 (Go.bits .or .u32 (Go.bits .or .u32 (b : Int) ((c * 4096 : Nat) : Int)) ((d * 33554432 : Nat) : Int)) ((r1 * 32768 : Nat) : Int)) ((toldv a m : Nat) : Int)) ((rd * 128 : Nat) : Int)) ((r2 * 1048576 : Nat) : Int) = ((encw a b c d rd r1 r2 m : Nat) : Int) ∧ encw a b c d rd r1 r2 m < 4294967296 := by
 have hb := R.hb
 have pb : b &&& 127 = b := by rw [show 127 = 2 ^ 7 - 1 from rfl, Nat.and_two_pow_sub_one_eq_mod]; exact Nat.mod_eq_of_lt hb
 have pc : c * 4096 &&& 28672 = c * 4096 := piece' c 12 3 28672 (by decide +kernel) R.hc
 have pd : d * 33554432 &&& 4261412864 = d * 33554432 := piece' d 25 7 4261412864 (by decide +kernel) R.hd
 have p1 : r1 * 32768 &&& 1015808 = r1 * 32768 := piece' r1 15 5 1015808 (by decide +kernel) hr1
 have prd : rd * 128 &&& 3968 = rd * 128 := piece' rd 7 5 3968 (by decide +kernel) hrd
 have p2 : r2 * 1048576 &&& 32505856 = r2 * 1048576 := piece' r2 20 5 32505856 (by decide +kernel) hr2
 obtain ⟨tl, t1, t2, t3, t4, t5⟩ := told_mask a m
 have lc := R.hc
 have ld := R.hd
 have up := R.up
 have mid := R.mid
 have B1 : b < 4294967296 := by omega
 have B2 : c * 4096 < 4294967296 := piece_lt c 12 3 R.hc (by decide)
 have B3 : d * 33554432 < 4294967296 := piece_lt d 25 7 R.hd (by decide)
 have B4 : r1 * 32768 < 4294967296 := piece_lt r1 15 5 hr1 (by decide)
 have B6 : rd * 128 < 4294967296 := piece_lt rd 7 5 hrd (by decide)
 have B7 : r2 * 1048576 < 4294967296 := piece_lt r2 20 5 hr2 (by decide)
 rcases R.form with e | e | e | e | e | e | e
 ·obtain ⟨rfl, rfl⟩ := up (Or.inl e)
  obtain rfl := z1 (by rw [e]; rfl)
  obtain rfl := z2 (by rw [e]; rfl)
  exact chain7 _ _ _ _ _ _ _ 127 0 0 0 4294963200 3968 0 pb (zk _) (zk _) (zk _) (t1 (Or.inl e)) prd (zk _) B1 B2 B3 B4 tl B6 B7 (by decide +kernel)
 ·obtain ⟨rfl, rfl⟩ := up (Or.inr e)
  obtain rfl := z1 (by rw [e]; rfl)
  obtain rfl := z2 (by rw [e]; rfl)
  exact chain7 _ _ _ _ _ _ _ 127 0 0 0 4294963200 3968 0 pb (zk _) (zk _) (zk _) (t1 (Or.inr e)) prd (zk _) B1 B2 B3 B4 tl B6 B7 (by decide +kernel)
 ·obtain rfl := mid (Or.inl e)
  obtain rfl := z2 (by rw [e]; rfl)
  exact chain7 _ _ _ _ _ _ _ 127 28672 0 1015808 4293918720 3968 0 pb pc (zk _) p1 (t2 (Or.inl e)) prd (zk _) B1 B2 B3 B4 tl B6 B7 (by decide +kernel)
 ·obtain rfl := mid (Or.inr (Or.inr e))
  obtain rfl := zd (by rw [e]; rfl)
  exact chain7 _ _ _ _ _ _ _ 127 28672 0 1015808 4261416832 0 32505856 pb pc (zk _) p1 (t3 (Or.inr e)) (zk _) p2 B1 B2 B3 B4 tl B6 B7 (by decide +kernel)
 ·obtain rfl := mid (Or.inr (Or.inl e))
  obtain rfl := zd (by rw [e]; rfl)
  exact chain7 _ _ _ _ _ _ _ 127 28672 0 1015808 4261416832 0 32505856 pb pc (zk _) p1 (t3 (Or.inl e)) (zk _) p2 B1 B2 B3 B4 tl B6 B7 (by decide +kernel)
 ·obtain rfl := z2 (by rw [e]; rfl)
  exact chain7 _ _ _ _ _ _ _ 127 28672 4261412864 1015808 32505856 3968 0 pb pc pd p1 (t5 e (h72 e)) prd (zk _) B1 B2 B3 B4 tl B6 B7 (by decide +kernel)
 ·have t0 := t4 e
  have t6 : toldv a m &&& 0 = toldv a m := by rw [t0]; rfl
  exact chain7 _ _ _ _ _ _ _ 127 28672 4261412864 1015808 0 3968 32505856 pb pc pd p1 t6 prd p2 B1 B2 B3 B4 tl B6 B7 (by decide +kernel)
theorem or_nat (y z : Int) : ∃ x : Nat, x < 4294967296 ∧ Go.bits .or .u32 y z = (x : Int) := by
 refine ⟨(BitVec.ofInt 32 y ||| BitVec.ofInt 32 z).toNat, (BitVec.ofInt 32 y ||| BitVec.ofInt 32 z).isLt, ?_⟩
 show IntKind.u32.wrap (((BitVec.ofInt 32 y ||| BitVec.ofInt 32 z).toNat : Nat) : Int) = _
 rw [IntKind.wrap_u32]
 have := (BitVec.ofInt 32 y ||| BitVec.ofInt 32 z).isLt
 omega
theorem or_zero2 (y z : Int) : Go.bits .or .u32 (Go.bits .or .u32 y z) 0 = Go.bits .or .u32 y z := by
 obtain ⟨x, hx, e⟩ := or_nat y z
 rw [e, show (0 : Int) = ((0 : Nat) : Int) from rfl, u32_or_nat _ _ hx (by decide), Nat.or_zero]
theorem numb_72 (m : Int) (h : numb 72 m = true) : (m % 4294967296).toNat < 32 := by
 have := of_decide_eq_true (show decide (0 ≤ m ∧ m ≤ 31) = true from h)
 omega
theorem mul_c (x c : Nat) (hx : x < 4294967296) (h : x * c < 4294967296) : (((x : Int) % 4294967296) * (c : Int)) % 4294967296 = ((x * c : Nat) : Int) := by
 rw [Int.emod_eq_of_lt (a := (x : Int)) (by omega) (by omega), ← Int.natCast_mul, Int.emod_eq_of_lt (by omega) (by omega)]
theorem mul_d (x c : Nat) (h : x * c < 4294967296) : ((x : Int) * (c : Int)) % 4294967296 = ((x * c : Nat) : Int) := by
 rw [← Int.natCast_mul, Int.emod_eq_of_lt (by omega) (by omega)]
theorem em_of (m : Int) : m % 4294967296 = (((m % 4294967296).toNat : Nat) : Int) ∧ (m % 4294967296).toNat < 4294967296 := by omega
theorem right_e (op : Int) (h : op = 45 ∨ op = 46) (a1 a2 a3 a4 : Int) : rightv op a1 a2 a3 a4 = true ↔ (a1 = 0 ∧ a2 = 0 ∧ a3 = 0 ∧ a4 = 0) := by
 have e : frm op = 69 := by rcases h with rfl | rfl <;> rfl
 unfold rightv
 rw [e]
 unfold regv
 simp [hRd, hR1, hR2, numb]
theorem right_out (a0 a1 a2 a3 a4 : Int) (h : ¬ (0 ≤ a0 ∧ a0 < 47)) : rightv a0 a1 a2 a3 a4 = false := by
 unfold rightv frm
 rw [if_neg h]
 rfl
theorem imm85 (w : Nat) : immv 85 w = ((w / 4096 : Nat) : Int) := rfl
theorem imm74 (w : Nat) : immv 74 w = sig (w / 2147483648 * 1048576 + w / 4096 % 256 * 4096 + w / 1048576 % 2 * 2048 + w / 2097152 % 1024 * 2) 21 := rfl
theorem imm73 (w : Nat) : immv 73 w = sig (w / 1048576) 12 := rfl
theorem imm83 (w : Nat) : immv 83 w = sig (w / 33554432 * 32 + w / 128 % 32) 12 := rfl
theorem imm66 (w : Nat) : immv 66 w = sig (w / 2147483648 * 4096 + w / 128 % 2 * 2048 + w / 33554432 % 64 * 32 + w / 256 % 16 * 2) 13 := rfl
theorem imm72 (w : Nat) : immv 72 w = ((w / 1048576 % 32 : Nat) : Int) := rfl
theorem imm82 (w : Nat) : immv 82 w = 0 := rfl
theorem sig21 (v : Nat) : sig v 21 = (v : Int) - (if v / 1048576 % 2 = 1 then 2097152 else 0) := rfl
theorem sig12 (v : Nat) : sig v 12 = (v : Int) - (if v / 2048 % 2 = 1 then 4096 else 0) := rfl
theorem sig13 (v : Nat) : sig v 13 = (v : Int) - (if v / 4096 % 2 = 1 then 8192 else 0) := rfl
theorem told85 (m : Nat) : toldv 85 m = m % 1048576 * 4096 := rfl
theorem told74 (m : Nat) : toldv 74 m = m / 1048576 % 2 * 2147483648 + m / 4096 % 256 * 4096 + m / 2048 % 2 * 1048576 + m / 2 % 1024 * 2097152 := rfl
theorem told73 (m : Nat) : toldv 73 m = m % 4096 * 1048576 := rfl
theorem told72 (m : Nat) : toldv 72 m = m % 4096 * 1048576 := rfl
theorem told83 (m : Nat) : toldv 83 m = m / 32 % 128 * 33554432 + m % 32 * 128 := rfl
theorem told66 (m : Nat) : toldv 66 m = m / 4096 % 2 * 2147483648 + m / 2048 % 2 * 128 + m / 32 % 64 * 33554432 + m / 2 % 16 * 256 := rfl
theorem told82 (m : Nat) : toldv 82 m = 0 := rfl
theorem numb85 {m : Int} (h : numb 85 m = true) : 0 ≤ m ∧ m ≤ 1048575 := of_decide_eq_true h
theorem numb74 {m : Int} (h : numb 74 m = true) : -1048576 ≤ m ∧ m ≤ 1048574 ∧ m % 2 = 0 := of_decide_eq_true h
theorem numb73 {m : Int} (h : numb 73 m = true) : -2048 ≤ m ∧ m ≤ 2047 := of_decide_eq_true h
theorem numb83 {m : Int} (h : numb 83 m = true) : -2048 ≤ m ∧ m ≤ 2047 := of_decide_eq_true h
theorem numb66 {m : Int} (h : numb 66 m = true) : -4096 ≤ m ∧ m ≤ 4094 ∧ m % 2 = 0 := of_decide_eq_true h
theorem numb72' {m : Int} (h : numb 72 m = true) : 0 ≤ m ∧ m ≤ 31 := of_decide_eq_true h
theorem numb82 {m : Int} (h : numb 82 m = true) : m = 0 := of_decide_eq_true h
theorem b85 (b rd : Nat) (m : Int) (m' w : Nat) (hb : b < 128) (hrd : rd < 32) (hm : 0 ≤ m ∧ m ≤ 1048575) (e : (m' : Int) = m % 4294967296) (hw : w = b + 0 * 4096 + 0 * 33554432 + 0 * 32768 + m' % 1048576 * 4096 + rd * 128 + 0 * 1048576) :
  w % 128 = b ∧ w / 128 % 32 = rd ∧ ((w / 4096 : Nat) : Int) = m := by omega
theorem b74 (b rd t1 t2 t3 t4 w : Nat) (hb : b < 128) (hrd : rd < 32) (h1 : t1 < 2) (h2 : t2 < 256) (h3 : t3 < 2) (h4 : t4 < 1024)
  (hw : w = b + 0 * 4096 + 0 * 33554432 + 0 * 32768 + (t1 * 2147483648 + t2 * 4096 + t3 * 1048576 + t4 * 2097152) + rd * 128 + 0 * 1048576) :
  w % 128 = b ∧ w / 128 % 32 = rd ∧ w / 2147483648 = t1 ∧ w / 4096 % 256 = t2 ∧ w / 1048576 % 2 = t3 ∧ w / 2097152 % 1024 = t4 := by omega
theorem s74 (m : Int) (m' v : Nat) (hm : -1048576 ≤ m ∧ m ≤ 1048574 ∧ m % 2 = 0) (e : (m' : Int) = m % 4294967296) (hv : v = m' / 1048576 % 2 * 1048576 + m' / 4096 % 256 * 4096 + m' / 2048 % 2 * 2048 + m' / 2 % 1024 * 2) : sig v 21 = m := by
 rw [sig21]; split <;> omega
theorem b73 (b c rd r1 : Nat) (m : Int) (m' w : Nat) (hb : b < 128) (hc : c < 8) (hrd : rd < 32) (hr1 : r1 < 32) (hm : -2048 ≤ m ∧ m ≤ 2047) (e : (m' : Int) = m % 4294967296)
  (hw : w = b + c * 4096 + 0 * 33554432 + r1 * 32768 + m' % 4096 * 1048576 + rd * 128 + 0 * 1048576) :
  w % 128 = b ∧ w / 4096 % 8 = c ∧ w / 128 % 32 = rd ∧ w / 32768 % 32 = r1 ∧ w / 1048576 = m' % 4096 := by omega
theorem s73 (m : Int) (m' v : Nat) (hm : -2048 ≤ m ∧ m ≤ 2047) (e : (m' : Int) = m % 4294967296) (hv : v = m' % 4096) : sig v 12 = m := by
 rw [sig12]; split <;> omega
theorem b72 (b c d rd r1 : Nat) (m : Int) (m' w : Nat) (hb : b < 128) (hc : c < 8) (hd : d < 128) (hd' : d % 32 = 0) (hrd : rd < 32) (hr1 : r1 < 32) (hm : 0 ≤ m ∧ m ≤ 31) (e : (m' : Int) = m % 4294967296)
  (hw : w = b + c * 4096 + d * 33554432 + r1 * 32768 + m' % 4096 * 1048576 + rd * 128 + 0 * 1048576) :
  w % 128 = b ∧ w / 4096 % 8 = c ∧ w / 33554432 = d ∧ w / 128 % 32 = rd ∧ w / 32768 % 32 = r1 ∧ ((w / 1048576 % 32 : Nat) : Int) = m := by omega
theorem b83 (b c r1 r2 t1 t2 w : Nat) (hb : b < 128) (hc : c < 8) (hr1 : r1 < 32) (hr2 : r2 < 32) (h1 : t1 < 128) (h2 : t2 < 32)
  (hw : w = b + c * 4096 + 0 * 33554432 + r1 * 32768 + (t1 * 33554432 + t2 * 128) + 0 * 128 + r2 * 1048576) :
  w % 128 = b ∧ w / 4096 % 8 = c ∧ w / 32768 % 32 = r1 ∧ w / 1048576 % 32 = r2 ∧ w / 33554432 = t1 ∧ w / 128 % 32 = t2 := by omega
theorem b66 (b c r1 r2 t1 t2 t3 t4 w : Nat) (hb : b < 128) (hc : c < 8) (hr1 : r1 < 32) (hr2 : r2 < 32) (h1 : t1 < 2) (h2 : t2 < 2) (h3 : t3 < 64) (h4 : t4 < 16)
  (hw : w = b + c * 4096 + 0 * 33554432 + r1 * 32768 + (t1 * 2147483648 + t2 * 128 + t3 * 33554432 + t4 * 256) + 0 * 128 + r2 * 1048576) :
  w % 128 = b ∧ w / 4096 % 8 = c ∧ w / 32768 % 32 = r1 ∧ w / 1048576 % 32 = r2 ∧ w / 2147483648 = t1 ∧ w / 128 % 2 = t2 ∧ w / 33554432 % 64 = t3 ∧ w / 256 % 16 = t4 := by omega
theorem s66 (m : Int) (m' v : Nat) (hm : -4096 ≤ m ∧ m ≤ 4094 ∧ m % 2 = 0) (e : (m' : Int) = m % 4294967296) (hv : v = m' / 4096 % 2 * 4096 + m' / 2048 % 2 * 2048 + m' / 32 % 64 * 32 + m' / 2 % 16 * 2) : sig v 13 = m := by
 rw [sig13]; split <;> omega
theorem b82 (b c d rd r1 r2 w : Nat) (hb : b < 128) (hc : c < 8) (hd : d < 128) (hrd : rd < 32) (hr1 : r1 < 32) (hr2 : r2 < 32) (hw : w = b + c * 4096 + d * 33554432 + r1 * 32768 + 0 + rd * 128 + r2 * 1048576) :
  w % 128 = b ∧ w / 4096 % 8 = c ∧ w / 33554432 = d ∧ w / 128 % 32 = rd ∧ w / 32768 % 32 = r1 ∧ w / 1048576 % 32 = r2 := by omega
theorem s83 (m : Int) (m' v : Nat) (hm : -2048 ≤ m ∧ m ≤ 2047) (e : (m' : Int) = m % 4294967296) (hv : v = m' / 32 % 128 * 32 + m' % 32) : sig v 12 = m := by
 rw [sig12]; split <;> omega
theorem back_row {n : Nat} {a : Int} {b c d : Nat} (R : Row n a b c d) (h72 : a = 72 → d % 32 = 0) (rd r1 r2 : Nat) (m : Int) (hrd : rd < 32) (hr1 : r1 < 32) (hr2 : r2 < 32)
  (zd : hRd a = false → rd = 0) (z1 : hR1 a = false → r1 = 0) (z2 : hR2 a = false → r2 = 0) (hm : numb a m = true) :
  tk n (encw a b c d rd r1 r2 (m % 4294967296).toNat) ∧ decx n (encw a b c d rd r1 r2 (m % 4294967296).toNat) = ((n : Int), (rd : Int), (r1 : Int), (r2 : Int), m, 0) := by
 obtain ⟨em, lm⟩ := em_of m
 have em := em.symm
 generalize (m % 4294967296).toNat = m' at em lm ⊢
 generalize hw : encw a b c d rd r1 r2 m' = w
 have hw := hw.symm
 unfold encw at hw
 unfold tk decx tellsP
 rw [R.get]
 simp only
 have hb := R.hb
 have hc := R.hc
 have hd := R.hd
 have up := R.up
 have mid := R.mid
 rcases R.form with rfl | rfl | rfl | rfl | rfl | rfl | rfl
 ·obtain ⟨rfl, rfl⟩ := up (Or.inl rfl)
  obtain rfl := z1 rfl
  obtain rfl := z2 rfl
  rw [told85] at hw
  obtain ⟨x1, x2, x3⟩ := b85 b rd m m' w hb hrd (numb85 hm) em hw
  refine ⟨Or.inl ⟨Or.inl rfl, by rw [x1]⟩, ?_⟩
  rw [imm85, x3, x2]; rfl
 ·obtain ⟨rfl, rfl⟩ := up (Or.inr rfl)
  obtain rfl := z1 rfl
  obtain rfl := z2 rfl
  rw [told74] at hw
  obtain ⟨x1, x2, x3, x4, x5, x6⟩ := b74 b rd _ _ _ _ w hb hrd (Nat.mod_lt _ (by decide)) (Nat.mod_lt _ (by decide)) (Nat.mod_lt _ (by decide)) (Nat.mod_lt _ (by decide)) hw
  refine ⟨Or.inl ⟨Or.inr rfl, by rw [x1]⟩, ?_⟩
  rw [imm74, x3, x4, x5, x6, x2, s74 m m' _ (numb74 hm) em rfl]; rfl
 ·obtain rfl := mid (Or.inl rfl)
  obtain rfl := z2 rfl
  rw [told73] at hw
  obtain ⟨x1, x2, x3, x4, x5⟩ := b73 b c rd r1 m m' w hb hc hrd hr1 (numb73 hm) em hw
  refine ⟨Or.inr (Or.inr ⟨Or.inl rfl, by rw [x1], by rw [x2]⟩), ?_⟩
  rw [imm73, x5, x3, x4, s73 m m' _ (numb73 hm) em rfl]; rfl
 ·obtain rfl := mid (Or.inr (Or.inr rfl))
  obtain rfl := zd rfl
  rw [told66] at hw
  obtain ⟨x1, x2, x3, x4, x5, x6, x7, x8⟩ := b66 b c r1 r2 _ _ _ _ w hb hc hr1 hr2 (Nat.mod_lt _ (by decide)) (Nat.mod_lt _ (by decide)) (Nat.mod_lt _ (by decide)) (Nat.mod_lt _ (by decide)) hw
  refine ⟨Or.inr (Or.inr ⟨Or.inr (Or.inr rfl), by rw [x1], by rw [x2]⟩), ?_⟩
  rw [imm66, x5, x6, x7, x8, x3, x4, s66 m m' _ (numb66 hm) em rfl]; rfl
 ·obtain rfl := mid (Or.inr (Or.inl rfl))
  obtain rfl := zd rfl
  rw [told83] at hw
  obtain ⟨x1, x2, x3, x4, x5, x6⟩ := b83 b c r1 r2 _ _ w hb hc hr1 hr2 (Nat.mod_lt _ (by decide)) (Nat.mod_lt _ (by decide)) hw
  refine ⟨Or.inr (Or.inr ⟨Or.inr (Or.inl rfl), by rw [x1], by rw [x2]⟩), ?_⟩
  rw [imm83, x5, x6, x3, x4, s83 m m' _ (numb83 hm) em rfl]; rfl
 ·obtain rfl := z2 rfl
  rw [told72] at hw
  obtain ⟨x1, x2, x3, x4, x5, x6⟩ := b72 b c d rd r1 m m' w hb hc hd (h72 rfl) hrd hr1 (numb72' hm) em hw
  refine ⟨Or.inr (Or.inl ⟨Or.inr rfl, by rw [x1], by rw [x2], by rw [x3]⟩), ?_⟩
  rw [imm72, x4, x5, x6]; rfl
 ·obtain rfl := numb82 hm
  rw [told82] at hw
  obtain ⟨x1, x2, x3, x4, x5, x6⟩ := b82 b c d rd r1 r2 w hb hc hd hrd hr1 hr2 hw
  refine ⟨Or.inr (Or.inl ⟨Or.inl rfl, by rw [x1], by rw [x2], by rw [x3]⟩), ?_⟩
  rw [imm82, x4, x5, x6]; rfl
theorem d72 (n : Nat) (hn : n < 45) (a : Int) (b c d : Nat) (R : Row n a b c d) (h : a = 72) : d % 32 = 0 := by
 have hg := R.get
 rcases rows_ok ⟨n, hn⟩ with ⟨_, _, _, _, _, _, e⟩ | ⟨_, _, _, _, _, _, e⟩
 ·simp only at e; rw [hg] at e; simpa using e
 ·simp only at e; rw [hg] at e; simp only at e; omega
theorem w74 (b w t1 t2 t3 t4 rd : Nat) (hw : w < 4294967296) (hb : w % 128 = b) (h0 : rd = w / 128 % 32) (h1 : t1 = w / 2147483648) (h2 : t2 = w / 4096 % 256) (h3 : t3 = w / 1048576 % 2) (h4 : t4 = w / 2097152 % 1024) :
  b + 0 * 4096 + 0 * 33554432 + 0 * 32768 + (t1 * 2147483648 + t2 * 4096 + t3 * 1048576 + t4 * 2097152) + rd * 128 + 0 * 1048576 = w ∧ t1 < 2 ∧ t2 < 256 ∧ t3 < 2 ∧ t4 < 1024 := by omega
theorem m74 (t1 t2 t3 t4 v : Nat) (h1 : t1 < 2) (h2 : t2 < 256) (h3 : t3 < 2) (h4 : t4 < 1024) (hv : v = t1 * 1048576 + t2 * 4096 + t3 * 2048 + t4 * 2) : numb 74 (sig v 21) = true ∧
  ∀ m' : Nat, (m' : Int) = sig v 21 % 4294967296 → m' / 1048576 % 2 = t1 ∧ m' / 4096 % 256 = t2 ∧ m' / 2048 % 2 = t3 ∧ m' / 2 % 1024 = t4 := by
 rw [sig21]
 have hs : ((v : Int) - (if v / 1048576 % 2 = 1 then 2097152 else 0)) = (v : Int) - 2097152 * t1 := by split <;> omega
 rw [hs]
 refine ⟨decide_eq_true (by omega), fun m' e => ?_⟩
 have e2 : (m' : Int) = (v : Int) - 2097152 * t1 + 4294967296 * t1 := by omega
 clear e hs
 subst hv
 refine ⟨?_, ?_, ?_, ?_⟩ <;> omega
theorem m73 (v : Nat) (hv : v < 4096) : numb 73 (sig v 12) = true ∧ numb 83 (sig v 12) = true ∧ ∀ m' : Nat, (m' : Int) = sig v 12 % 4294967296 → m' % 4096 = v := by
 rw [sig12]
 refine ⟨decide_eq_true (by split <;> omega), decide_eq_true (by split <;> omega), fun m' e => ?_⟩
 revert e; split <;> intro e <;> omega
theorem w73 (b c w rd r1 v : Nat) (hw : w < 4294967296) (hb : w % 128 = b) (hc : w / 4096 % 8 = c) (h0 : rd = w / 128 % 32) (h1 : r1 = w / 32768 % 32) (hv : v = w / 1048576) :
  b + c * 4096 + 0 * 33554432 + r1 * 32768 + v * 1048576 + rd * 128 + 0 * 1048576 = w ∧ v < 4096 := by omega
theorem w83 (b c w r1 r2 t1 t2 : Nat) (hw : w < 4294967296) (hb : w % 128 = b) (hc : w / 4096 % 8 = c) (h1 : r1 = w / 32768 % 32) (h2 : r2 = w / 1048576 % 32) (h3 : t1 = w / 33554432) (h4 : t2 = w / 128 % 32) :
  b + c * 4096 + 0 * 33554432 + r1 * 32768 + (t1 * 33554432 + t2 * 128) + 0 * 128 + r2 * 1048576 = w ∧ t1 < 128 ∧ t2 < 32 := by omega
theorem w66 (b c w r1 r2 t1 t2 t3 t4 : Nat) (hw : w < 4294967296) (hb : w % 128 = b) (hc : w / 4096 % 8 = c) (h1 : r1 = w / 32768 % 32) (h2 : r2 = w / 1048576 % 32) (h3 : t1 = w / 2147483648) (h4 : t2 = w / 128 % 2) (h5 : t3 = w / 33554432 % 64) (h6 : t4 = w / 256 % 16) :
  b + c * 4096 + 0 * 33554432 + r1 * 32768 + (t1 * 2147483648 + t2 * 128 + t3 * 33554432 + t4 * 256) + 0 * 128 + r2 * 1048576 = w ∧ t1 < 2 ∧ t2 < 2 ∧ t3 < 64 ∧ t4 < 16 := by omega
theorem m66 (t1 t2 t3 t4 v : Nat) (h1 : t1 < 2) (h2 : t2 < 2) (h3 : t3 < 64) (h4 : t4 < 16) (hv : v = t1 * 4096 + t2 * 2048 + t3 * 32 + t4 * 2) : numb 66 (sig v 13) = true ∧
  ∀ m' : Nat, (m' : Int) = sig v 13 % 4294967296 → m' / 4096 % 2 = t1 ∧ m' / 2048 % 2 = t2 ∧ m' / 32 % 64 = t3 ∧ m' / 2 % 16 = t4 := by
 rw [sig13]
 have hs : ((v : Int) - (if v / 4096 % 2 = 1 then 8192 else 0)) = (v : Int) - 8192 * t1 := by split <;> omega
 rw [hs]
 refine ⟨decide_eq_true (by omega), fun m' e => ?_⟩
 have e2 : (m' : Int) = (v : Int) - 8192 * t1 + 4294967296 * t1 := by omega
 clear e hs
 subst hv
 refine ⟨?_, ?_, ?_, ?_⟩ <;> omega
theorem w72 (b c d w rd r1 : Nat) (hw : w < 4294967296) (hb : w % 128 = b) (hc : w / 4096 % 8 = c) (hd : w / 33554432 = d) (h0 : rd = w / 128 % 32) (h1 : r1 = w / 32768 % 32) :
  b + c * 4096 + d * 33554432 + r1 * 32768 + w / 1048576 % 32 % 4096 * 1048576 + rd * 128 + 0 * 1048576 = w := by omega
theorem w82 (b c d w rd r1 r2 : Nat) (hw : w < 4294967296) (hb : w % 128 = b) (hc : w / 4096 % 8 = c) (hd : w / 33554432 = d) (h0 : rd = w / 128 % 32) (h1 : r1 = w / 32768 % 32) (h2 : r2 = w / 1048576 % 32) :
  b + c * 4096 + d * 33554432 + r1 * 32768 + 0 + rd * 128 + r2 * 1048576 = w := by omega
theorem w85 (b w rd m' : Nat) (hw : w < 4294967296) (hb : w % 128 = b) (h0 : rd = w / 128 % 32) (e : m' = w / 4096) :
  b + 0 * 4096 + 0 * 33554432 + 0 * 32768 + m' % 1048576 * 4096 + rd * 128 + 0 * 1048576 = w := by omega
theorem nat_emod (x : Nat) (h : x < 4294967296) : ((x : Int) % 4294967296).toNat = x := by omega
theorem forth_row {n : Nat} {a : Int} {b c d : Nat} (R : Row n a b c d) (w : Nat) (hw : w < 4294967296) (h : tk n w) :
  numb a (immv a w) = true ∧ encw a b c d (if hRd a = true then w / 128 % 32 else 0) (if hR1 a = true then w / 32768 % 32 else 0) (if hR2 a = true then w / 1048576 % 32 else 0) (immv a w % 4294967296).toNat = w := by
 unfold tk tellsP at h
 rw [R.get] at h
 simp only at h
 have up := R.up
 have mid := R.mid
 rcases R.form with rfl | rfl | rfl | rfl | rfl | rfl | rfl
 ·obtain ⟨rfl, rfl⟩ := up (Or.inl rfl)
  have hb : w % 128 = b := by omega
  rw [imm85, nat_emod _ (by omega)]
  refine ⟨decide_eq_true (show 0 ≤ ((w / 4096 : Nat) : Int) ∧ ((w / 4096 : Nat) : Int) ≤ 1048575 by omega), ?_⟩
  exact w85 b w _ _ hw hb rfl rfl
 ·obtain ⟨rfl, rfl⟩ := up (Or.inr rfl)
  have hb : w % 128 = b := by omega
  obtain ⟨x0, x1, x2, x3, x4⟩ := w74 b w _ _ _ _ _ hw hb rfl rfl rfl rfl rfl
  obtain ⟨y1, y2⟩ := m74 _ _ _ _ _ x1 x2 x3 x4 rfl
  rw [imm74]
  obtain ⟨z1, z2, z3, z4⟩ := y2 _ (em_of _).1.symm
  refine ⟨y1, ?_⟩
  unfold encw
  rw [told74, z1, z2, z3, z4]
  exact x0
 ·obtain rfl := mid (Or.inl rfl)
  have hb : w % 128 = b := by omega
  have hc : w / 4096 % 8 = c := by omega
  obtain ⟨x0, x1⟩ := w73 b c w _ _ _ hw hb hc rfl rfl rfl
  obtain ⟨y1, _, y2⟩ := m73 _ x1
  rw [imm73]
  have z1 := y2 _ (em_of _).1.symm
  refine ⟨y1, ?_⟩
  unfold encw
  rw [told73, z1]
  exact x0
 ·obtain rfl := mid (Or.inr (Or.inr rfl))
  have hb : w % 128 = b := by omega
  have hc : w / 4096 % 8 = c := by omega
  obtain ⟨x0, x1, x2, x3, x4⟩ := w66 b c w _ _ _ _ _ _ hw hb hc rfl rfl rfl rfl rfl rfl
  obtain ⟨y1, y2⟩ := m66 _ _ _ _ _ x1 x2 x3 x4 rfl
  rw [imm66]
  obtain ⟨z1, z2, z3, z4⟩ := y2 _ (em_of _).1.symm
  refine ⟨y1, ?_⟩
  unfold encw
  rw [told66, z1, z2, z3, z4]
  exact x0
 ·obtain rfl := mid (Or.inr (Or.inl rfl))
  have hb : w % 128 = b := by omega
  have hc : w / 4096 % 8 = c := by omega
  obtain ⟨x0, x1, x2⟩ := w83 b c w _ _ _ _ hw hb hc rfl rfl rfl rfl
  have x3 : w / 33554432 * 32 + w / 128 % 32 < 4096 := by omega
  obtain ⟨_, y1, y2⟩ := m73 _ x3
  rw [imm83]
  have z1 := y2 _ (em_of _).1.symm
  refine ⟨y1, ?_⟩
  unfold encw
  have z2 (m v1 v2 : Nat) (h1 : v1 < 128) (h2 : v2 < 32) (h : m % 4096 = v1 * 32 + v2) : m / 32 % 128 = v1 ∧ m % 32 = v2 := by omega
  obtain ⟨z3, z4⟩ := z2 _ _ _ x1 x2 z1
  rw [told83, z3, z4]
  exact x0
 ·have hb : w % 128 = b := by omega
  have hc : w / 4096 % 8 = c := by omega
  have hd : w / 33554432 = d := by omega
  rw [imm72, nat_emod _ (by omega)]
  refine ⟨decide_eq_true (show 0 ≤ ((w / 1048576 % 32 : Nat) : Int) ∧ ((w / 1048576 % 32 : Nat) : Int) ≤ 31 by omega), ?_⟩
  exact w72 b c d w _ _ hw hb hc hd rfl rfl
 ·have hb : w % 128 = b := by omega
  have hc : w / 4096 % 8 = c := by omega
  have hd : w / 33554432 = d := by omega
  refine ⟨rfl, ?_⟩
  exact w82 b c d w _ _ _ hw hb hc hd rfl rfl rfl
theorem Decode_cases (w : Nat) (hw : w < 4294967296) : (∃ j, j < 47 ∧ tk j w ∧ ∀ k, 150 < k → inst_Decode.f k (w : Int) = some (decx j w)) ∨
  (w = 115 ∧ ∀ k, 150 < k → inst_Decode.f k (w : Int) = some (45, 0, 0, 0, 0, 0)) ∨ (w = 1048691 ∧ ∀ k, 150 < k → inst_Decode.f k (w : Int) = some (46, 0, 0, 0, 0, 0)) ∨
  (w ≠ 115 ∧ w ≠ 1048691 ∧ (∀ j, j < 47 → ¬ tk j w) ∧ ∀ k, 150 < k → inst_Decode.f k (w : Int) = some (0, 0, 0, 0, 0, 20)) := by
 by_cases h : ∃ j, j < 47 ∧ tk j w
 ·obtain ⟨j, h1, h2⟩ := h
  exact Or.inl ⟨j, h1, h2, fun k hk => Decode_some j w hw h1 h2 k hk⟩
 have h' : ∀ j, j < 47 → ¬ tk j w := fun j h1 h2 => h ⟨j, h1, h2⟩
 by_cases e1 : w = 115
 ·subst e1; exact Or.inr (Or.inl ⟨rfl, fun k _ => Decode_115 k⟩)
 by_cases e2 : w = 1048691
 ·subst e2; exact Or.inr (Or.inr (Or.inl ⟨rfl, fun k _ => Decode_ebreak k⟩))
 exact Or.inr (Or.inr (Or.inr ⟨e1, e2, h', fun k hk => Decode_none w hw e1 e2 h' k hk⟩))
theorem Decode_tot (w : Nat) (hw : w < 4294967296) : ∃ x, inst_Decode.f 200 (w : Int) = some x ∧ (x.2.2.2.2.2 = 0 ∨ x = (0, 0, 0, 0, 0, 20)) := by
 rcases Decode_cases w hw with ⟨j, j1, j2, j3⟩ | ⟨j1, j3⟩ | ⟨j1, j3⟩ | ⟨_, _, _, j3⟩
 ·exact ⟨_, j3 200 (by decide), Or.inl rfl⟩
 ·exact ⟨_, j3 200 (by decide), Or.inl rfl⟩
 ·exact ⟨_, j3 200 (by decide), Or.inl rfl⟩
 ·exact ⟨_, j3 200 (by decide), Or.inr rfl⟩
theorem cast_if (p : Bool) (x : Nat) : (if p = true then (x : Int) else 0) = (((if p = true then x else 0) : Nat) : Int) := by cases p <;> rfl
theorem if_lt (p : Bool) (x : Nat) (h : x < 32) : (if p = true then x else 0) < 32 := by cases p <;> simp [h]
theorem if_zero (p : Bool) (x : Nat) (h : p = false) : (if p = true then x else 0) = 0 := by rw [h]; rfl
theorem rForm_in : ∀ n : Fin 47, r02_Form.f (n.val : Int) = some (kGet n.val).1 := by decide +kernel
theorem rForm_eq (op : Int) : r02_Form.f op = some (frm op) := by
 by_cases h : 0 ≤ op ∧ op < 47
 ·obtain ⟨n, rfl⟩ := Int.eq_ofNat_of_zero_le h.1
  rw [rForm_in ⟨n, by omega⟩]
  unfold frm
  rw [if_pos h, Int.toNat_natCast]
 ·rw [rForm_out op h]; unfold frm; rw [if_neg h]
theorem rin_all : ∀ f ∈ [0, 85, 74, 73, 66, 83, 72, 82, 69], r02_in.f 200 f (⟨#[85, 74, 73, 72, 82]⟩ : ByteArray) = some (hRd f) ∧ r02_in.f 200 f (⟨#[73, 72, 66, 83, 82]⟩ : ByteArray) = some (hR1 f) ∧ r02_in.f 200 f (⟨#[66, 83, 82]⟩ : ByteArray) = some (hR2 f) := by decide +kernel
theorem rspan_all : ∀ f ∈ [0, 85, 74, 73, 66, 83, 72, 82, 69], r02_span.f 200 f = some (if f = 85 then (0, 1048575, 1) else if f = 74 then (-1048576, 1048574, 2) else if f = 73 ∨ f = 83 then (-2048, 2047, 1) else if f = 66 then (-4096, 4094, 2) else if f = 72 then (0, 31, 1) else (0, 0, 1)) := by decide +kernel
theorem rreg_eq (n : Int) (b : Bool) : r02_reg.f n b = some (regv b n) := by
 unfold r02_reg.f regv
 by_cases h : n = 0
 ·simp [h]
 ·rw [if_neg h]
  cases b
  ·simp [h]
  ·rw [if_pos rfl]
   by_cases h1 : n > 0
   ·rw [if_pos h1]; congr 1; rw [decide_eq_decide]; simp [h]; omega
   ·rw [if_neg h1, decide_eq_false (by omega)]
theorem rtmod1 (m : Int) : (Int.tmod m 1 == 0) = true := by rw [beq_iff_eq]; exact Int.tmod_one m
theorem rRight_eq (a0 a1 a2 a3 a4 : Int) : r02_Right.f 200 a0 a1 a2 a3 a4 = some (rightv a0 a1 a2 a3 a4) := by
 unfold r02_Right.f rightv
 rw [rForm_eq, obs]
 have hm : frm a0 ∈ [0, 85, 74, 73, 66, 83, 72, 82, 69] := by
  rcases frm_cases a0 with ⟨_, h⟩ | ⟨_, h | h | h | h | h | h | h | h⟩ <;> rw [h] <;> decide
 obtain ⟨i1, i2, i3⟩ := rin_all _ hm
 rw [rspan_all _ hm, obs, i1, i2, i3]
 simp only [obs, rreg_eq]
 rcases frm_cases a0 with ⟨_, h⟩ | ⟨_, h | h | h | h | h | h | h | h⟩
 ·rw [h]; rfl
 all_goals
  rw [h]
  generalize regv _ a1 = p1
  generalize regv _ a2 = p2
  generalize regv _ a3 = p3
  cases p1 <;> cases p2 <;> cases p3 <;> simp [numb, rtmod1, tmod2]
 all_goals first
  | ((repeat' split) <;> simp_all; done)
  | (by_cases h0 : a4 = 0 <;> simp_all <;> omega)
  | ((repeat' split) <;> simp_all <;> omega)
def sumP : List Int → Nat → Nat → Nat
 | [], _, _ => 0
 | p :: ps, i, m => (if 0 ≤ p then m / 2 ^ i % 2 * 2 ^ p.toNat else 0) + sumP ps (i + 1) m
def okP : Nat → List Int → Bool
 | _, [] => true
 | M, p :: ps => if 0 ≤ p then decide (p < 32) && (M &&& 2 ^ p.toNat == 0) && okP (M ||| 2 ^ p.toNat) ps else okP M ps
theorem wrap_succ (i : Nat) (h : i < 1000) : wrap64 ((i : Int) + 1) = ((i + 1 : Nat) : Int) := by rw [wrap64_lit _ (by omega) (by omega)]; omega
theorem or_none {x M q : Nat} (hx : x &&& M = x) (hM : M &&& q = 0) : x &&& (M ||| q) = x := by
 rw [Nat.and_or_distrib_left, hx]
 have : x &&& q = 0 := by rw [← hx, Nat.and_assoc, hM, Nat.and_zero]
 rw [this, Nat.or_zero]
theorem Bit_at (m : Int) (m' : Nat) (em : m % 4294967296 = (m' : Int)) (lm : m' < 4294967296) (i : Nat) (hi : i < 32) : r01_Bit.f (m % 4294967296) (i : Int) = some ((m' / 2 ^ i % 2 : Nat) : Int) := by
 rw [em, Bit_eq m' lm, if_pos ⟨Int.natCast_nonneg i, by omega⟩, Int.toNat_natCast]
theorem drop_head {P : List Int} {i : Nat} {p : Int} {ps : List Int} (h : P.drop i = p :: ps) : i < P.length ∧ rd P (i : Int) = p ∧ P.drop (i + 1) = ps := by
 have hl : i < P.length := by
  have := congrArg List.length h
  simp at this
  omega
 refine ⟨hl, ?_, by rw [← List.tail_drop, h]; rfl⟩
 unfold rd
 have := congrArg (fun l => l.head?) h
 simp [List.head?_drop] at this
 simp [this]
theorem drop_nil {P : List Int} {i : Nat} (h : P.drop i = []) : P.length ≤ i := by
 have := congrArg List.length h
 simp at this
 omega
theorem rEnc_end (P : List Int) (m : Int) (a0 a1 a2 a3 : Int) (x : Int) (i k : Nat) (h : P.length ≤ i) : r02_Encode.l0 (k + 1) x P (i : Int) a0 a1 a2 a3 m = some (x, 0) := by
 simp only [r02_Encode.l0]
 rw [if_neg (by omega)]
theorem rEnc_step (P : List Int) (m : Int) (a0 a1 a2 a3 : Int) (m' : Nat) (em : m % 4294967296 = (m' : Int)) (lm : m' < 4294967296) (hP : P.length ≤ 31) (x : Nat) (i k : Nat) (h : i < P.length) (p : Int) (hrd : rd P (i : Int) = p) :
  r02_Encode.l0 (k + 1) (x : Int) P (i : Int) a0 a1 a2 a3 m = if 0 ≤ p then (if ((m' / 2 ^ i % 2 : Nat) : Int) = 1 then (if 0 ≤ p then r02_Encode.l0 k (Go.bits .or .u32 (x : Int) (shl .u32 1 p)) P ((i + 1 : Nat) : Int) a0 a1 a2 a3 m else none) else r02_Encode.l0 k (x : Int) P ((i + 1 : Nat) : Int) a0 a1 a2 a3 m) else r02_Encode.l0 k (x : Int) P ((i + 1 : Nat) : Int) a0 a1 a2 a3 m := by
 simp only [r02_Encode.l0]
 rw [if_pos (Int.ofNat_lt.mpr h), if_pos (Int.natCast_nonneg i), hrd, wrap_succ i (by omega), Bit_at m m' em lm i (by omega), obs]
theorem rEnc_loop (P : List Int) (m : Int) (m' : Nat) (em : m % 4294967296 = (m' : Int)) (lm : m' < 4294967296) (hP : P.length ≤ 31) (a0 a1 a2 a3 : Int) :
  ∀ (ps : List Int) (i k M x : Nat), P.drop i = ps → ps.length < k → x &&& M = x → x < 4294967296 → okP M ps = true →
   r02_Encode.l0 k (x : Int) P (i : Int) a0 a1 a2 a3 m = some (((x + sumP ps i m' : Nat) : Int), 0) := by
 intro ps
 induction ps with
 | nil =>
  intro i k M x hd hk hx lx _
  obtain ⟨k, rfl⟩ : ∃ q, k = q + 1 := ⟨k - 1, by simp at hk; omega⟩
  rw [rEnc_end P m a0 a1 a2 a3 _ i k (drop_nil hd)]
  rfl
 | cons p ps ih =>
  intro i k M x hd hk hx lx hok
  simp only [List.length_cons] at hk
  obtain ⟨k, rfl⟩ : ∃ q, k = q + 1 := ⟨k - 1, by omega⟩
  obtain ⟨hlt, hrd, hnext⟩ := drop_head hd
  rw [rEnc_step P m a0 a1 a2 a3 m' em lm hP x i k hlt p hrd]
  have hk' : ps.length < k := Nat.lt_of_succ_lt_succ hk
  unfold okP at hok
  simp only [sumP]
  by_cases hp : 0 ≤ p
  ·rw [if_pos hp] at hok
   simp only [Bool.and_eq_true, decide_eq_true_eq, beq_iff_eq] at hok
   obtain ⟨⟨h32, hM⟩, hok⟩ := hok
   obtain ⟨q, rfl⟩ := Int.eq_ofNat_of_zero_le hp
   rw [Int.toNat_natCast] at hM hok ⊢
   have hq : q < 32 := Int.ofNat_lt.mp h32
   rw [if_pos hp, if_pos hp, if_pos hp]
   rcases Nat.mod_two_eq_zero_or_one (m' / 2 ^ i) with hb | hb
   ·rw [hb, if_neg (by decide), ih (i + 1) k (M ||| 2 ^ q) x hnext hk' (or_none hx hM) lx hok, Nat.zero_mul, Nat.zero_add]
   ·have hs : shl .u32 1 (q : Int) = ((1 * 2 ^ q : Nat) : Int) := shl_small 1 q 1 (by decide) (by omega)
    have lq := piece_lt 1 q 1 (by decide) (by omega)
    rw [Nat.one_mul] at hs lq
    obtain ⟨e, e2, e3⟩ := or_sum M (2 ^ q) hx (Nat.and_self _) hM lx lq
    rw [hb, if_pos (show ((1 : Nat) : Int) = 1 from rfl), hs, u32_or_nat _ _ lx lq, e, ih (i + 1) k (M ||| 2 ^ q) (x + 2 ^ q) hnext hk' e2 e3 hok, Nat.one_mul, Nat.add_assoc]
  ·rw [if_neg hp] at hok
   rw [if_neg hp, if_neg hp, ih (i + 1) k M x hnext hk' hx lx hok, Nat.zero_add]
theorem sumT_row (x n : Nat) : x % 2 ^ (n + 1) = x % 2 ^ n + x / 2 ^ n % 2 * 2 ^ n := by
 rw [Nat.pow_succ, Nat.mod_mul, Nat.mul_comm (x / 2 ^ n % 2)]
def plU : List Int := [12, 13, 14, 15, 16, 17, 18, 19, 20, 21, 22, 23, 24, 25, 26, 27, 28, 29, 30, 31]
def plJ : List Int := [-1, 21, 22, 23, 24, 25, 26, 27, 28, 29, 30, 20, 12, 13, 14, 15, 16, 17, 18, 19, 31]
def plI : List Int := [20, 21, 22, 23, 24, 25, 26, 27, 28, 29, 30, 31]
def plS : List Int := [7, 8, 9, 10, 11, 25, 26, 27, 28, 29, 30, 31]
def plB : List Int := [-1, 8, 9, 10, 11, 25, 26, 27, 28, 29, 30, 7, 31]
def plH : List Int := [20, 21, 22, 23, 24]
def plc (f : Int) : List Int := if f = 85 then plU else if f = 74 then plJ else if f = 73 then plI else if f = 83 then plS else if f = 66 then plB else if f = 72 then plH else []
theorem places_eq (f : Int) : r02_places.f f = some (plc f) := by
 unfold r02_places.f plc
 repeat' (first | rfl | split)
theorem sumP_run (s : Nat) (m : Nat) : ∀ (n a : Nat) (rest : List Int), sumP ((List.range n).map (fun j => ((s + j : Nat) : Int)) ++ rest) a m = m / 2 ^ a % 2 ^ n * 2 ^ s + sumP rest (a + n) m := by
 intro n
 induction n with
 | zero => intro a rest; simp [Nat.mod_one]
 | succ n ih =>
  intro a rest
  rw [List.range_succ, List.map_append, List.append_assoc, ih]
  simp only [List.map_cons, List.map_nil, List.cons_append, List.nil_append, sumP]
  rw [if_pos (by omega), Int.toNat_natCast, sumT_row, Nat.add_mul, Nat.div_div_eq_div_mul, ← Nat.pow_add, Nat.pow_add 2 s n, Nat.mul_assoc (m / 2 ^ (a + n) % 2), Nat.mul_comm (2 ^ n) (2 ^ s), show a + n + 1 = a + (n + 1) by omega]
  omega
theorem sumP_skip (m a : Nat) (rest : List Int) : sumP (-1 :: rest) a m = sumP rest (a + 1) m := by
 simp only [sumP]
 rw [if_neg (by decide), Nat.zero_add]
theorem sumP_at (ps : List Int) (s m n a : Nat) (rest : List Int) (h : ps = (List.range n).map (fun j => ((s + j : Nat) : Int)) ++ rest) (A N S : Nat) (hA : 2 ^ a = A) (hN : 2 ^ n = N) (hS : 2 ^ s = S) (b : Nat) (hb : a + n = b) : sumP ps a m = m / A % N * S + sumP rest b m := by
 subst hA hN hS hb
 rw [h, sumP_run]
theorem sumP_U (m : Nat) : sumP plU 0 m = m % 1048576 * 4096 := by
 rw [sumP_at plU 12 m 20 0 [] (by decide) 1 1048576 4096 (by decide) (by decide) (by decide) 20 rfl, Nat.div_one]; exact Nat.add_zero _
theorem sumP_J (m : Nat) : sumP plJ 0 m = m / 2 % 1024 * 2097152 + (m / 2048 % 2 * 1048576 + (m / 4096 % 256 * 4096 + (m / 1048576 % 2 * 2147483648 + 0))) := by
 rw [show plJ = -1 :: [21, 22, 23, 24, 25, 26, 27, 28, 29, 30, 20, 12, 13, 14, 15, 16, 17, 18, 19, 31] from rfl, sumP_skip,
  sumP_at _ 21 m 10 1 [20, 12, 13, 14, 15, 16, 17, 18, 19, 31] (by decide) 2 1024 2097152 (by decide) (by decide) (by decide) 11 rfl,
  sumP_at _ 20 m 1 11 [12, 13, 14, 15, 16, 17, 18, 19, 31] (by decide) 2048 2 1048576 (by decide) (by decide) (by decide) 12 rfl,
  sumP_at _ 12 m 8 12 [31] (by decide) 4096 256 4096 (by decide) (by decide) (by decide) 20 rfl,
  sumP_at _ 31 m 1 20 [] (by decide) 1048576 2 2147483648 (by decide) (by decide) (by decide) 21 rfl]
 rfl
theorem sumP_I (m : Nat) : sumP plI 0 m = m % 4096 * 1048576 := by
 rw [sumP_at plI 20 m 12 0 [] (by decide) 1 4096 1048576 (by decide) (by decide) (by decide) 12 rfl, Nat.div_one]; exact Nat.add_zero _
theorem sumP_H (m : Nat) : sumP plH 0 m = m % 32 * 1048576 := by
 rw [sumP_at plH 20 m 5 0 [] (by decide) 1 32 1048576 (by decide) (by decide) (by decide) 5 rfl, Nat.div_one]; exact Nat.add_zero _
theorem sumP_S (m : Nat) : sumP plS 0 m = m % 32 * 128 + (m / 32 % 128 * 33554432 + 0) := by
 rw [sumP_at plS 7 m 5 0 [25, 26, 27, 28, 29, 30, 31] (by decide) 1 32 128 (by decide) (by decide) (by decide) 5 rfl, Nat.div_one,
  sumP_at _ 25 m 7 5 [] (by decide) 32 128 33554432 (by decide) (by decide) (by decide) 12 rfl]
 rfl
theorem sumP_B (m : Nat) : sumP plB 0 m = m / 2 % 16 * 256 + (m / 32 % 64 * 33554432 + (m / 2048 % 2 * 128 + (m / 4096 % 2 * 2147483648 + 0))) := by
 rw [show plB = -1 :: [8, 9, 10, 11, 25, 26, 27, 28, 29, 30, 7, 31] from rfl, sumP_skip,
  sumP_at _ 8 m 4 1 [25, 26, 27, 28, 29, 30, 7, 31] (by decide) 2 16 256 (by decide) (by decide) (by decide) 5 rfl,
  sumP_at _ 25 m 6 5 [7, 31] (by decide) 32 64 33554432 (by decide) (by decide) (by decide) 11 rfl,
  sumP_at _ 7 m 1 11 [31] (by decide) 2048 2 128 (by decide) (by decide) (by decide) 12 rfl,
  sumP_at _ 31 m 1 12 [] (by decide) 4096 2 2147483648 (by decide) (by decide) (by decide) 13 rfl]
 rfl
theorem sumP_told (f : Int) (m : Nat) (h72 : f = 72 → m < 32) : sumP (plc f) 0 m = toldv f m := by
 unfold plc toldv
 by_cases h1 : f = 85
 ·rw [if_pos h1, if_pos h1]; exact sumP_U m
 rw [if_neg h1, if_neg h1]
 by_cases h2 : f = 74
 ·rw [if_pos h2, if_pos h2, sumP_J]; omega
 rw [if_neg h2, if_neg h2]
 by_cases h3 : f = 73
 ·rw [if_pos h3, if_pos (Or.inl h3)]; exact sumP_I m
 rw [if_neg h3]
 by_cases h4 : f = 83
 ·rw [if_pos h4, if_neg (by omega), if_pos h4, sumP_S]; omega
 rw [if_neg h4]
 by_cases h5 : f = 66
 ·rw [if_pos h5, if_neg (by omega), if_neg h4, if_pos h5, sumP_B]; omega
 rw [if_neg h5]
 by_cases h6 : f = 72
 ·have := h72 h6
  rw [if_pos h6, if_pos (Or.inr h6), sumP_H, Nat.mod_eq_of_lt this, Nat.mod_eq_of_lt (by omega)]
 rw [if_neg h6, if_neg (by omega), if_neg h4, if_neg h5]
 rfl
theorem rows_lists : ∀ n : Fin 47, r02_ops.f.bind (fun l => if (n.val : Int) < (l.length : Int) then some (rd l (n.val : Int)) else none) = some (kGet n.val).2.1 ∧
    r02_f3.f.bind (fun l => if (n.val : Int) < (l.length : Int) then some (rd l (n.val : Int)) else none) = some (kGet n.val).2.2.1 ∧
    r02_f7.f.bind (fun l => if (n.val : Int) < (l.length : Int) then some (rd l (n.val : Int)) else none) = some (kGet n.val).2.2.2 := by decide +kernel
theorem row_of_list {F : Option (List Int)} {n : Nat} {x : Int} (h : F.bind (fun l => if (n : Int) < (l.length : Int) then some (rd l (n : Int)) else none) = some x) : ∃ l, F = some l ∧ (n : Int) < (l.length : Int) ∧ rd l (n : Int) = x := by
 obtain ⟨l, h1, h2⟩ := Option.bind_eq_some_iff.mp h
 by_cases c : (n : Int) < (l.length : Int)
 ·rw [if_pos c] at h2
  exact ⟨l, h1, c, Option.some.inj h2⟩
 ·rw [if_neg c] at h2
  cases h2
def enc0 (b c d rd r1 r2 : Nat) : Nat := b + c * 4096 + d * 33554432 + rd * 128 + r1 * 32768 + r2 * 1048576
theorem chain6 {x1 x2 x3 x4 x5 x6 : Nat} (m1 m2 m3 m4 m5 m6 : Nat) (h1 : x1 &&& m1 = x1) (h2 : x2 &&& m2 = x2) (h3 : x3 &&& m3 = x3) (h4 : x4 &&& m4 = x4) (h5 : x5 &&& m5 = x5) (h6 : x6 &&& m6 = x6)
  (l1 : x1 < 4294967296) (l2 : x2 < 4294967296) (l3 : x3 < 4294967296) (l4 : x4 < 4294967296) (l5 : x5 < 4294967296) (l6 : x6 < 4294967296)
  (d : m1 &&& m2 = 0 ∧ (m1 ||| m2) &&& m3 = 0 ∧ ((m1 ||| m2) ||| m3) &&& m4 = 0 ∧ (((m1 ||| m2) ||| m3) ||| m4) &&& m5 = 0 ∧ ((((m1 ||| m2) ||| m3) ||| m4) ||| m5) &&& m6 = 0) (M : Nat) (hM : ((((m1 ||| m2) ||| m3) ||| m4) ||| m5) ||| m6 = M) :
  (x1 + x2 + x3 + x4 + x5 + x6) &&& M = x1 + x2 + x3 + x4 + x5 + x6 ∧ x1 + x2 + x3 + x4 + x5 + x6 < 4294967296 := by
 subst hM
 obtain ⟨d2, d3, d4, d5, d6⟩ := d
 obtain ⟨e2, q2, r2⟩ := or_sum _ _ h1 h2 d2 l1 l2
 obtain ⟨e3, q3, r3⟩ := or_sum _ _ q2 h3 d3 r2 l3
 obtain ⟨e4, q4, r4⟩ := or_sum _ _ q3 h4 d4 r3 l4
 obtain ⟨e5, q5, r5⟩ := or_sum _ _ q4 h5 d5 r4 l5
 obtain ⟨e6, q6, r6⟩ := or_sum _ _ q5 h6 d6 r5 l6
 exact ⟨q6, r6⟩
theorem enc0_mask {n : Nat} {a : Int} {b c d : Nat} (R : Row n a b c d) (rd r1 r2 : Nat) (hrd : rd < 32) (hr1 : r1 < 32) (hr2 : r2 < 32)
  (zd : hRd a = false → rd = 0) (z1 : hR1 a = false → r1 = 0) (z2 : hR2 a = false → r2 = 0) :
  ∃ M, enc0 b c d rd r1 r2 &&& M = enc0 b c d rd r1 r2 ∧ enc0 b c d rd r1 r2 < 4294967296 ∧ okP M (plc a) = true := by
 have hb := R.hb
 have pb : b &&& 127 = b := by rw [show 127 = 2 ^ 7 - 1 from rfl, Nat.and_two_pow_sub_one_eq_mod]; exact Nat.mod_eq_of_lt hb
 have pc : c * 4096 &&& 28672 = c * 4096 := piece' c 12 3 28672 (by decide +kernel) R.hc
 have pd : d * 33554432 &&& 4261412864 = d * 33554432 := piece' d 25 7 4261412864 (by decide +kernel) R.hd
 have p1 : r1 * 32768 &&& 1015808 = r1 * 32768 := piece' r1 15 5 1015808 (by decide +kernel) hr1
 have prd : rd * 128 &&& 3968 = rd * 128 := piece' rd 7 5 3968 (by decide +kernel) hrd
 have p2 : r2 * 1048576 &&& 32505856 = r2 * 1048576 := piece' r2 20 5 32505856 (by decide +kernel) hr2
 have up := R.up
 have mid := R.mid
 have B1 : b < 4294967296 := by omega
 have B2 : c * 4096 < 4294967296 := piece_lt c 12 3 R.hc (by decide)
 have B3 : d * 33554432 < 4294967296 := piece_lt d 25 7 R.hd (by decide)
 have B4 : r1 * 32768 < 4294967296 := piece_lt r1 15 5 hr1 (by decide)
 have B6 : rd * 128 < 4294967296 := piece_lt rd 7 5 hrd (by decide)
 have B7 : r2 * 1048576 < 4294967296 := piece_lt r2 20 5 hr2 (by decide)
 unfold enc0
 rcases R.form with rfl | rfl | rfl | rfl | rfl | rfl | rfl
 ·obtain ⟨rfl, rfl⟩ := up (Or.inl rfl)
  obtain rfl := z1 rfl
  obtain rfl := z2 rfl
  obtain ⟨q, l⟩ := chain6 127 0 0 3968 0 0 pb (zk _) (zk _) prd (zk _) (zk _) B1 B2 B3 B6 B4 B7 (by decide +kernel) 4095 (by decide +kernel)
  exact ⟨_, q, l, by decide +kernel⟩
 ·obtain ⟨rfl, rfl⟩ := up (Or.inr rfl)
  obtain rfl := z1 rfl
  obtain rfl := z2 rfl
  obtain ⟨q, l⟩ := chain6 127 0 0 3968 0 0 pb (zk _) (zk _) prd (zk _) (zk _) B1 B2 B3 B6 B4 B7 (by decide +kernel) 4095 (by decide +kernel)
  exact ⟨_, q, l, by decide +kernel⟩
 ·obtain rfl := mid (Or.inl rfl)
  obtain rfl := z2 rfl
  obtain ⟨q, l⟩ := chain6 127 28672 0 3968 1015808 0 pb pc (zk _) prd p1 (zk _) B1 B2 B3 B6 B4 B7 (by decide +kernel) 1048575 (by decide +kernel)
  exact ⟨_, q, l, by decide +kernel⟩
 ·obtain rfl := mid (Or.inr (Or.inr rfl))
  obtain rfl := zd rfl
  obtain ⟨q, l⟩ := chain6 127 28672 0 0 1015808 32505856 pb pc (zk _) (zk _) p1 p2 B1 B2 B3 B6 B4 B7 (by decide +kernel) _ rfl
  exact ⟨_, q, l, by decide +kernel⟩
 ·obtain rfl := mid (Or.inr (Or.inl rfl))
  obtain rfl := zd rfl
  obtain ⟨q, l⟩ := chain6 127 28672 0 0 1015808 32505856 pb pc (zk _) (zk _) p1 p2 B1 B2 B3 B6 B4 B7 (by decide +kernel) _ rfl
  exact ⟨_, q, l, by decide +kernel⟩
 ·obtain rfl := z2 rfl
  obtain ⟨q, l⟩ := chain6 127 28672 4261412864 3968 1015808 0 pb pc pd prd p1 (zk _) B1 B2 B3 B6 B4 B7 (by decide +kernel) _ rfl
  exact ⟨_, q, l, by decide +kernel⟩
 ·obtain ⟨q, l⟩ := chain6 127 28672 4261412864 3968 1015808 32505856 pb pc pd prd p1 p2 B1 B2 B3 B6 B4 B7 (by decide +kernel) _ rfl
  exact ⟨_, q, l, rfl⟩
theorem enc0_w (b c d rd r1 r2 : Nat) (a1 a2 a3 : Int) (h1 : a1 = (rd : Int)) (h2 : a2 = (r1 : Int)) (h3 : a3 = (r2 : Int)) (l1 : rd < 32) (l2 : r1 < 32) (l3 : r2 < 32) (l : enc0 b c d rd r1 r2 < 4294967296) :
  ((((((b : Int) + (c : Int) * 4096) + (d : Int) * 33554432) + ((a1 % 4294967296) * 128)) + ((a2 % 4294967296) * 32768)) + ((a3 % 4294967296) * 1048576)) % 4294967296 = ((enc0 b c d rd r1 r2 : Nat) : Int) := by
 subst h1 h2 h3
 rw [Int.emod_eq_of_lt (a := (rd : Int)) (by omega) (by omega), Int.emod_eq_of_lt (a := (r1 : Int)) (by omega) (by omega), Int.emod_eq_of_lt (a := (r2 : Int)) (by omega) (by omega)]
 unfold enc0 at l ⊢
 omega
theorem rEncode_some {n : Nat} {a : Int} {b c d : Nat} (R : Row n a b c d) (hn : n < 45) (rd r1 r2 : Nat) (m : Int) (hrd : rd < 32) (hr1 : r1 < 32) (hr2 : r2 < 32)
  (zd : hRd a = false → rd = 0) (z1 : hR1 a = false → r1 = 0) (z2 : hR2 a = false → r2 = 0) (hm : numb a m = true) :
  r02_Encode.f 200 (n : Int) (rd : Int) (r1 : Int) (r2 : Int) m = some (((encw a b c d rd r1 r2 (m % 4294967296).toNat : Nat) : Int), 0) := by
 have hr : rightv (n : Int) (rd : Int) (r1 : Int) (r2 : Int) m = true := by
  rw [right_row R hn, regv_of _ _ hrd zd, regv_of _ _ hr1 z1, regv_of _ _ hr2 z2, hm]; rfl
 have h72 : a = 72 → (m % 4294967296).toNat < 32 := fun e => by rw [e] at hm; exact numb_72 m hm
 obtain ⟨em, lm⟩ := em_of m
 generalize (m % 4294967296).toNat = m' at em lm h72 ⊢
 obtain ⟨M, q1, q2, q3⟩ := enc0_mask R rd r1 r2 hrd hr1 hr2 zd z1 z2
 obtain ⟨g1, g2, g3⟩ := rows_lists ⟨n, by omega⟩
 have hget := R.get
 simp only at g1 g2 g3
 rw [hget] at g1 g2 g3
 obtain ⟨l1, f1, k1, v1⟩ := row_of_list g1
 obtain ⟨l2, f2, k2, v2⟩ := row_of_list g2
 obtain ⟨l3, f3, k3, v3⟩ := row_of_list g3
 unfold r02_Encode.f
 rw [rRight_eq, hr, obs, if_pos rfl, if_neg (show ¬ (n : Int) = 45 by omega), if_neg (show ¬ (n : Int) = 46 by omega), f1, obs, if_pos (Int.natCast_nonneg n), if_pos k1, f2, obs, if_pos k2, f3, obs, if_pos k3, rForm_eq, obs, frm_row R hn, places_eq, obs, v1, v2, v3]
 simp only
 rw [enc0_w b c d rd r1 r2 _ _ _ rfl rfl rfl hrd hr1 hr2 q2]
 have hp : (plc a).length ≤ 31 := by rcases R.form with rfl | rfl | rfl | rfl | rfl | rfl | rfl <;> decide
 have := rEnc_loop (plc a) m m' em lm hp (n : Int) (rd : Int) (r1 : Int) (r2 : Int) (plc a) 0 200 M (enc0 b c d rd r1 r2) rfl (by omega) q1 q2 q3
 rw [show ((0 : Nat) : Int) = 0 from rfl] at this
 rw [this, sumP_told a m' h72]
 congr 3
 unfold enc0 encw
 generalize toldv a m' = t
 omega
theorem rEncode_not (a0 a1 a2 a3 a4 : Int) (h : rightv a0 a1 a2 a3 a4 = false) : r02_Encode.f 200 a0 a1 a2 a3 a4 = some (0, 20) := by
 unfold r02_Encode.f
 rw [rRight_eq, h, obs, if_neg (by decide)]
theorem rEncode_e (op : Int) (h : op = 45 ∨ op = 46) : r02_Encode.f 200 op 0 0 0 0 = some ((if op = 45 then 115 else 1048691), 0) := by
 unfold r02_Encode.f
 rw [rRight_eq, (right_e op h 0 0 0 0).mpr ⟨rfl, rfl, rfl, rfl⟩, obs, if_pos rfl]
 rcases h with rfl | rfl <;> rfl
def topF (f : Int) : Bool := decide (f = 74 ∨ f = 73 ∨ f = 83 ∨ f = 66)
theorem rin_10 : ∀ f ∈ [0, 85, 74, 73, 66, 83, 72, 82, 69], r02_in.f 10 f (⟨#[85, 74, 73, 72, 82]⟩ : ByteArray) = some (hRd f) ∧ r02_in.f 10 f (⟨#[73, 72, 66, 83, 82]⟩ : ByteArray) = some (hR1 f) ∧ r02_in.f 10 f (⟨#[66, 83, 82]⟩ : ByteArray) = some (hR2 f) ∧ r02_in.f 10 f (⟨#[74, 73, 83, 66]⟩ : ByteArray) = some (topF f) := by decide +kernel
theorem rin_k (f : Int) (hf : f ∈ [0, 85, 74, 73, 66, 83, 72, 82, 69]) (k : Nat) (hk : 10 ≤ k) : r02_in.f k f (⟨#[85, 74, 73, 72, 82]⟩ : ByteArray) = some (hRd f) ∧ r02_in.f k f (⟨#[73, 72, 66, 83, 82]⟩ : ByteArray) = some (hR1 f) ∧ r02_in.f k f (⟨#[66, 83, 82]⟩ : ByteArray) = some (hR2 f) ∧ r02_in.f k f (⟨#[74, 73, 83, 66]⟩ : ByteArray) = some (topF f) := by
 obtain ⟨h1, h2, h3, h4⟩ := rin_10 f hf
 exact ⟨at_rounds (r02_in.mono _ _) hk h1, at_rounds (r02_in.mono _ _) hk h2, at_rounds (r02_in.mono _ _) hk h3, at_rounds (r02_in.mono _ _) hk h4⟩
theorem frm_mem (a0 : Int) : frm a0 ∈ [0, 85, 74, 73, 66, 83, 72, 82, 69] := by
 rcases frm_cases a0 with ⟨_, h⟩ | ⟨_, h | h | h | h | h | h | h | h⟩ <;> rw [h] <;> decide
def addT (top : Bool) (L i w : Nat) (p : Int) : Int := if 0 ≤ p then (if w / 2 ^ p.toNat % 2 = 1 then ((2 ^ i : Nat) : Int) - (if i + 1 = L then (if top = true then ((2 * 2 ^ i : Nat) : Int) else 0) else 0) else 0) else 0
def sumT (top : Bool) (L : Nat) : List Int → Nat → Nat → Int
 | [], _, _ => 0
 | p :: ps, i, w => addT top L i w p + sumT top L ps (i + 1) w
theorem pow_small (i : Nat) (h : i ≤ 21) : 2 ^ i ≤ 2097152 := two_pow_le i 21 h
theorem wr_ (x : Int) (h : -100000000 ≤ x) (h2 : x ≤ 100000000) : wrap64 x = x := wrap64_lit x (by omega) (by omega)
theorem addT_bd (top : Bool) (L i w : Nat) (p : Int) : -((2 ^ i : Nat) : Int) ≤ addT top L i w p ∧ addT top L i w p ≤ ((2 ^ i : Nat) : Int) := by
 unfold addT
 generalize 2 ^ i = q
 repeat' split
 all_goals omega
theorem rTry_end (f : Int) (P : List Int) (w n wo : Int) (a0 a1 a2 a3 a4 : Int) (i k : Nat) (h : P.length ≤ i) : r02_try.l0 (k + 1) w f P n wo (i : Int) a0 a1 a2 a3 a4 = some (a0, a1, a2, a3, n) := by
 simp only [r02_try.l0]
 rw [if_neg (by omega)]
theorem rTry_step (f : Int) (hf : f ∈ [0, 85, 74, 73, 66, 83, 72, 82, 69]) (P : List Int) (hP : P.length ≤ 21) (w : Nat) (hw : w < 4294967296) (a0 a1 a2 a3 a4 : Int) (i k : Nat) (hk : 10 ≤ k) (h : i < P.length) (p : Int) (hp31 : p ≤ 31) (hrd : rd P (i : Int) = p)
  (n : Int) (hn : -((2 ^ i : Nat) : Int) ≤ n ∧ n < ((2 ^ i : Nat) : Int)) :
  r02_try.l0 (k + 2) (w : Int) f P n ((2 ^ i : Nat) : Int) (i : Int) a0 a1 a2 a3 a4 =
   r02_try.l0 k (w : Int) f P (n + addT (topF f) P.length i w p) ((2 ^ (i + 1) : Nat) : Int) ((i + 1 : Nat) : Int) a0 a1 a2 a3 a4 := by
 have hi := pow_small i (by omega)
 have hs : wrap64 ((i : Int) + 1) = ((i + 1 : Nat) : Int) := wrap_succ i (by omega)
 have hd : wrap64 (2 * ((2 ^ i : Nat) : Int)) = ((2 ^ (i + 1) : Nat) : Int) := by
  rw [Nat.pow_succ, wr_ _ (by omega) (by omega)]; omega
 have hL : ((i : Int) = wrap64 ((P.length : Int) - 1)) ↔ i + 1 = P.length := by rw [wr_ _ (by omega) (by omega)]; omega
 have h1 : wrap64 (n + ((2 ^ i : Nat) : Int)) = n + ((2 ^ i : Nat) : Int) := wr_ _ (by omega) (by omega)
 have h2 : wrap64 (n + ((2 ^ i : Nat) : Int) - ((2 ^ (i + 1) : Nat) : Int)) = n + (((2 ^ i : Nat) : Int) - ((2 * 2 ^ i : Nat) : Int)) := by
  rw [Nat.pow_succ, wr_ _ (by omega) (by omega)]; omega
 have hin := (rin_k f hf k hk).2.2.2
 have hB : 0 ≤ p → r01_Bit.f (w : Int) p = some ((w / 2 ^ p.toNat % 2 : Nat) : Int) := by
  intro h0
  rw [Bit_eq w hw, if_pos ⟨h0, hp31⟩]
 rw [show r02_try.l0 (k + 2) (w : Int) f P n ((2 ^ i : Nat) : Int) (i : Int) a0 a1 a2 a3 a4 = if 0 ≤ p then r02_try.j4 (k + 1) (w : Int) f P n ((2 ^ i : Nat) : Int) (i : Int) (((if 0 ≤ p then w / 2 ^ p.toNat % 2 else 0 : Nat) : Int) == 1) a0 a1 a2 a3 a4 else r02_try.j4 (k + 1) (w : Int) f P n ((2 ^ i : Nat) : Int) (i : Int) false a0 a1 a2 a3 a4 by
  simp only [r02_try.l0]
  rw [if_pos (Int.ofNat_lt.mpr h), if_pos (Int.natCast_nonneg i), hrd]
  by_cases h0 : 0 ≤ p
  ·rw [if_pos h0, if_pos h0, hB h0, obs, if_pos h0]
  ·rw [if_neg h0, if_neg h0]]
 unfold addT
 by_cases h0 : 0 ≤ p
 ·rw [if_pos h0, if_pos h0, if_pos h0]
  by_cases hb : w / 2 ^ p.toNat % 2 = 1
  ·rw [hb, if_pos rfl, show (((1 : Nat) : Int) == 1) = true from rfl]
   simp only [r02_try.j4, reduceIte]
   rw [hin, hs, hd, h1]
   by_cases hl : i + 1 = P.length
   ·rw [if_pos (hL.mpr hl), if_pos hl, obs]
    cases ht : topF f
    ·rw [if_neg (by decide), if_neg (by decide), Int.sub_zero]
    ·rw [if_pos rfl, if_pos rfl, h2]
   ·rw [if_neg (fun e => hl (hL.mp e)), if_neg hl, Int.sub_zero]
  ·have hb0 : w / 2 ^ p.toNat % 2 = 0 := by omega
   rw [hb0, if_neg (by decide), show (((0 : Nat) : Int) == 1) = false from rfl]
   simp only [r02_try.j4, Bool.false_eq_true, reduceIte]
   rw [hs, hd, Int.add_zero]
 ·rw [if_neg h0, if_neg h0]
  simp only [r02_try.j4, Bool.false_eq_true, reduceIte]
  rw [hs, hd, Int.add_zero]
theorem rTry_loop (f : Int) (hf : f ∈ [0, 85, 74, 73, 66, 83, 72, 82, 69]) (P : List Int) (hP : P.length ≤ 21) (w : Nat) (hw : w < 4294967296) (a0 a1 a2 a3 a4 : Int) :
  ∀ (ps : List Int) (i k : Nat) (n : Int), P.drop i = ps → (∀ p ∈ ps, p ≤ 31) → 10 + 2 * ps.length < k → -((2 ^ i : Nat) : Int) ≤ n ∧ n < ((2 ^ i : Nat) : Int) →
   r02_try.l0 k (w : Int) f P n ((2 ^ i : Nat) : Int) (i : Int) a0 a1 a2 a3 a4 = some (a0, a1, a2, a3, n + sumT (topF f) P.length ps i w) := by
 intro ps
 induction ps with
 | nil =>
  intro i k n hd _ hk _
  obtain ⟨k, rfl⟩ : ∃ q, k = q + 1 := ⟨k - 1, by omega⟩
  rw [rTry_end f P _ _ _ _ _ _ _ _ i k (drop_nil hd)]
  simp [sumT]
 | cons p ps ih =>
  intro i k n hd hle hk hn
  simp only [List.length_cons] at hk
  obtain ⟨k, rfl⟩ : ∃ q, k = q + 2 := ⟨k - 2, by omega⟩
  obtain ⟨hlt, hrd, hnext⟩ := drop_head hd
  have hb := addT_bd (topF f) P.length i w p
  rw [rTry_step f hf P hP w hw a0 a1 a2 a3 a4 i k (by omega) hlt p (hle p (by simp)) hrd n hn, ih (i + 1) k _ hnext (fun q hq => hle q (by simp [hq])) (by omega) ?_]
  ·simp only [sumT]
   rw [Int.add_assoc]
  ·rw [Nat.pow_succ]
   generalize 2 ^ i = q at *
   omega
theorem sumT_run (top : Bool) (L s w : Nat) : ∀ (n a : Nat) (rest : List Int), (top = false ∨ a + n < L) → sumT top L ((List.range n).map (fun j => ((s + j : Nat) : Int)) ++ rest) a w = ((w / 2 ^ s % 2 ^ n * 2 ^ a : Nat) : Int) + sumT top L rest (a + n) w := by
 intro n
 induction n with
 | zero => intro a rest _; simp [Nat.mod_one]
 | succ n ih =>
  intro a rest h
  have hb : addT top L (a + n) w ((s + n : Nat) : Int) = ((w / 2 ^ s / 2 ^ n % 2 * 2 ^ n * 2 ^ a : Nat) : Int) := by
   unfold addT
   rw [if_pos (Int.natCast_nonneg _), Int.toNat_natCast, Nat.pow_add 2 s n, ← Nat.div_div_eq_div_mul]
   rcases Nat.mod_two_eq_zero_or_one (w / 2 ^ s / 2 ^ n) with e | e
   ·rw [e, if_neg (by decide)]; simp
   ·rw [e, if_pos rfl, Nat.one_mul, ← Nat.pow_add, Nat.add_comm n a]
    rcases h with h | h
    ·rw [h]; simp
    ·rw [if_neg (by omega), Int.sub_zero]
  rw [List.range_succ, List.map_append, List.append_assoc, ih a _ (h.imp id (fun h => by omega))]
  simp only [List.map_cons, List.map_nil, List.cons_append, List.nil_append, sumT]
  rw [hb, sumT_row, Nat.add_mul, Int.natCast_add, show a + n + 1 = a + (n + 1) by omega, Int.add_assoc]
theorem sumT_skip (top : Bool) (L w a : Nat) (rest : List Int) : sumT top L (-1 :: rest) a w = sumT top L rest (a + 1) w := by
 simp only [sumT, addT]
 rw [if_neg (by decide), Int.zero_add]
theorem sumT_at (top : Bool) (L : Nat) (ps : List Int) (s w n a : Nat) (rest : List Int) (h : ps = (List.range n).map (fun j => ((s + j : Nat) : Int)) ++ rest) (ht : top = false ∨ a + n < L) (A N S : Nat) (hA : 2 ^ a = A) (hN : 2 ^ n = N) (hS : 2 ^ s = S) (b : Nat) (hb : a + n = b) :
  sumT top L ps a w = ((w / S % N * A : Nat) : Int) + sumT top L rest b w := by
 subst hA hN hS hb
 rw [h, sumT_run _ _ _ _ _ _ _ ht]
theorem sumT_last (L s w a : Nat) (h : a + 1 = L) (A S : Nat) (hA : 2 ^ a = A) (hS : 2 ^ s = S) : sumT true L [(s : Int)] a w = ((w / S % 2 * A : Nat) : Int) - (if w / S % 2 = 1 then ((2 * A : Nat) : Int) else 0) := by
 subst hA hS
 simp only [sumT, addT]
 rw [if_pos (Int.natCast_nonneg _), Int.toNat_natCast, if_pos h]
 simp only [reduceIte]
 rcases Nat.mod_two_eq_zero_or_one (w / 2 ^ s) with e | e
 ·rw [e, if_neg (by decide), if_neg (by decide)]; simp
 ·rw [e, if_pos rfl, if_pos rfl, Nat.one_mul]; omega
theorem sumT_U (w : Nat) (hw : w < 4294967296) : sumT false 20 plU 0 w = ((w / 4096 : Nat) : Int) := by
 rw [sumT_at false 20 plU 12 w 20 0 [] (by decide) (Or.inl rfl) 1 1048576 4096 (by decide) (by decide) (by decide) 20 rfl]
 simp only [sumT, Nat.mul_one, Int.add_zero]
 congr 1
 omega
theorem sumT_H (w : Nat) : sumT false 5 plH 0 w = ((w / 1048576 % 32 : Nat) : Int) := by
 rw [sumT_at false 5 plH 20 w 5 0 [] (by decide) (Or.inl rfl) 1 32 1048576 (by decide) (by decide) (by decide) 5 rfl]
 simp only [sumT, Nat.mul_one, Int.add_zero]
theorem sumT_I (w : Nat) (hw : w < 4294967296) : sumT true 12 plI 0 w = sig (w / 1048576) 12 := by
 rw [sumT_at true 12 plI 20 w 11 0 [31] (by decide) (Or.inr (by decide)) 1 2048 1048576 (by decide) (by decide) (by decide) 11 rfl,
  show ([31] : List Int) = [((31 : Nat) : Int)] from rfl, sumT_last 12 31 w 11 rfl 2048 2147483648 (by decide) (by decide), sig12, Nat.mul_one]
 split <;> split <;> omega
theorem sumT_S (w : Nat) (hw : w < 4294967296) : sumT true 12 plS 0 w = sig (w / 33554432 * 32 + w / 128 % 32) 12 := by
 rw [sumT_at true 12 plS 7 w 5 0 [25, 26, 27, 28, 29, 30, 31] (by decide) (Or.inr (by decide)) 1 32 128 (by decide) (by decide) (by decide) 5 rfl,
  sumT_at true 12 _ 25 w 6 5 [31] (by decide) (Or.inr (by decide)) 32 64 33554432 (by decide) (by decide) (by decide) 11 rfl,
  show ([31] : List Int) = [((31 : Nat) : Int)] from rfl, sumT_last 12 31 w 11 rfl 2048 2147483648 (by decide) (by decide), sig12, Nat.mul_one]
 have e : w / 2147483648 = w / 33554432 / 64 := by rw [Nat.div_div_eq_div_mul]
 have h1 : w / 33554432 < 128 := by omega
 have h2 : w / 128 % 32 < 32 := Nat.mod_lt _ (by decide)
 rw [e]
 generalize w / 33554432 = y at *
 generalize w / 128 % 32 = t at *
 clear hw e
 split <;> split <;> omega
theorem sumT_J (w : Nat) (hw : w < 4294967296) : sumT true 21 plJ 0 w = sig (w / 2147483648 * 1048576 + w / 4096 % 256 * 4096 + w / 1048576 % 2 * 2048 + w / 2097152 % 1024 * 2) 21 := by
 rw [show plJ = -1 :: [21, 22, 23, 24, 25, 26, 27, 28, 29, 30, 20, 12, 13, 14, 15, 16, 17, 18, 19, 31] from rfl, sumT_skip,
  sumT_at true 21 _ 21 w 10 1 [20, 12, 13, 14, 15, 16, 17, 18, 19, 31] (by decide) (Or.inr (by decide)) 2 1024 2097152 (by decide) (by decide) (by decide) 11 rfl,
  sumT_at true 21 _ 20 w 1 11 [12, 13, 14, 15, 16, 17, 18, 19, 31] (by decide) (Or.inr (by decide)) 2048 2 1048576 (by decide) (by decide) (by decide) 12 rfl,
  sumT_at true 21 _ 12 w 8 12 [31] (by decide) (Or.inr (by decide)) 4096 256 4096 (by decide) (by decide) (by decide) 20 rfl,
  show ([31] : List Int) = [((31 : Nat) : Int)] from rfl, sumT_last 21 31 w 20 rfl 1048576 2147483648 (by decide) (by decide), sig21]
 have h1 : w / 2147483648 < 2 := by omega
 have h2 : w / 4096 % 256 < 256 := Nat.mod_lt _ (by decide)
 have h3 : w / 1048576 % 2 < 2 := Nat.mod_lt _ (by decide)
 have h4 : w / 2097152 % 1024 < 1024 := Nat.mod_lt _ (by decide)
 generalize w / 2147483648 = t1 at *
 generalize w / 4096 % 256 = t2 at *
 generalize w / 1048576 % 2 = t3 at *
 generalize w / 2097152 % 1024 = t4 at *
 clear hw
 split <;> split <;> omega
theorem sumT_B (w : Nat) (hw : w < 4294967296) : sumT true 13 plB 0 w = sig (w / 2147483648 * 4096 + w / 128 % 2 * 2048 + w / 33554432 % 64 * 32 + w / 256 % 16 * 2) 13 := by
 rw [show plB = -1 :: [8, 9, 10, 11, 25, 26, 27, 28, 29, 30, 7, 31] from rfl, sumT_skip,
  sumT_at true 13 _ 8 w 4 1 [25, 26, 27, 28, 29, 30, 7, 31] (by decide) (Or.inr (by decide)) 2 16 256 (by decide) (by decide) (by decide) 5 rfl,
  sumT_at true 13 _ 25 w 6 5 [7, 31] (by decide) (Or.inr (by decide)) 32 64 33554432 (by decide) (by decide) (by decide) 11 rfl,
  sumT_at true 13 _ 7 w 1 11 [31] (by decide) (Or.inr (by decide)) 2048 2 128 (by decide) (by decide) (by decide) 12 rfl,
  show ([31] : List Int) = [((31 : Nat) : Int)] from rfl, sumT_last 13 31 w 12 rfl 4096 2147483648 (by decide) (by decide), sig13]
 have h1 : w / 2147483648 < 2 := by omega
 have h2 : w / 256 % 16 < 16 := Nat.mod_lt _ (by decide)
 have h3 : w / 128 % 2 < 2 := Nat.mod_lt _ (by decide)
 have h4 : w / 33554432 % 64 < 64 := Nat.mod_lt _ (by decide)
 generalize w / 2147483648 = t1 at *
 generalize w / 256 % 16 = t2 at *
 generalize w / 128 % 2 = t3 at *
 generalize w / 33554432 % 64 = t4 at *
 clear hw
 split <;> split <;> omega
theorem sumT_imm (f : Int) (w : Nat) (hw : w < 4294967296) : sumT (topF f) (plc f).length (plc f) 0 w = immv f w := by
 by_cases h1 : f = 85
 ·subst h1; exact sumT_U w hw
 by_cases h2 : f = 74
 ·subst h2; exact sumT_J w hw
 by_cases h3 : f = 73
 ·subst h3; exact sumT_I w hw
 by_cases h4 : f = 83
 ·subst h4; exact sumT_S w hw
 by_cases h5 : f = 66
 ·subst h5; exact sumT_B w hw
 by_cases h6 : f = 72
 ·subst h6; exact sumT_H w
 unfold plc immv
 rw [if_neg h1, if_neg h2, if_neg h3, if_neg h4, if_neg h5, if_neg h6, if_neg h1, if_neg h2, if_neg h3, if_neg h4, if_neg h5, if_neg h6]
 rfl
theorem plc_len (f : Int) : (plc f).length ≤ 21 ∧ ∀ p ∈ plc f, p ≤ 31 := by
 unfold plc
 repeat' split
 all_goals decide
theorem rField5 (w p : Nat) (hw : w < 4294967296) (hp : p ≤ 27) (k : Nat) (hk : 80 < k) : r01_Field.f k (w : Int) (p : Int) 5 = some ((w / 2 ^ p % 32 : Nat) : Int) := by
 rw [show (5 : Int) = ((5 : Nat) : Int) from rfl, rField_all w hw _ _ k hk]
 unfold fld
 rw [if_pos (may_nat (by omega) (by decide) (by omega)), Int.toNat_natCast]
 rfl
theorem w64_5 (x : Nat) : wrap64 ((x % 32 : Nat) : Int) = ((x % 32 : Nat) : Int) := by
 have := Nat.mod_lt x (show 0 < 32 by decide)
 rw [wr_ _ (by omega) (by omega)]
theorem rTry_eq (op : Nat) (w : Nat) (hw : w < 4294967296) (k : Nat) (hk : 150 < k) :
  r02_try.f k (op : Int) (w : Int) = some ((op : Int), (if hRd (frm op) = true then ((w / 128 % 32 : Nat) : Int) else 0), (if hR1 (frm op) = true then ((w / 32768 % 32 : Nat) : Int) else 0), (if hR2 (frm op) = true then ((w / 1048576 % 32 : Nat) : Int) else 0), immv (frm op) w) := by
 obtain ⟨k, rfl⟩ : ∃ q, k = q + 3 := ⟨k - 3, by omega⟩
 have hf := frm_mem (op : Int)
 generalize hF : frm (op : Int) = f at hf
 unfold r02_try.f
 rw [rForm_eq, obs, hF, (rin_k f hf (k + 3) (by omega)).1, obs]
 have f1 := rField5 w 7 hw (by decide) (k + 3) (by omega)
 have f2 := rField5 w 15 hw (by decide) (k + 2) (by omega)
 have f3 := rField5 w 20 hw (by decide) (k + 1) (by omega)
 obtain ⟨pl, p31⟩ := plc_len f
 have hl (a0 a1 a2 a3 : Int) : r02_try.j2 (k + 1) (w : Int) f a0 a1 a2 a3 0 = some (a0, a1, a2, a3, immv f w) := by
  simp only [r02_try.j2]
  rw [places_eq, obs]
  have := rTry_loop f hf (plc f) pl w hw a0 a1 a2 a3 0 (plc f) 0 k 0 rfl p31 (by omega) (by decide)
  rw [Int.zero_add, sumT_imm f w hw] at this
  exact this
 have h1 (a0 a1 a2 : Int) : r02_try.j1 (k + 2) (w : Int) f a0 a1 a2 0 0 = some (a0, a1, a2, (if hR2 f = true then ((w / 1048576 % 32 : Nat) : Int) else 0), immv f w) := by
  simp only [r02_try.j1]
  rw [(rin_k f hf (k + 1) (by omega)).2.2.1, obs]
  cases hR2 f
  ·rw [if_neg (by decide), if_neg (by decide), hl]
  ·rw [if_pos rfl, if_pos rfl, show (20 : Int) = ((20 : Nat) : Int) from rfl, f3, obs, w64_5, hl]
 have h0 (a0 a1 : Int) : r02_try.j0 (k + 3) (w : Int) f a0 a1 0 0 0 = some (a0, a1, (if hR1 f = true then ((w / 32768 % 32 : Nat) : Int) else 0), (if hR2 f = true then ((w / 1048576 % 32 : Nat) : Int) else 0), immv f w) := by
  simp only [r02_try.j0]
  rw [(rin_k f hf (k + 2) (by omega)).2.1, obs]
  cases hR1 f
  ·rw [if_neg (by decide), if_neg (by decide), h1]
  ·rw [if_pos rfl, if_pos rfl, show (15 : Int) = ((15 : Nat) : Int) from rfl, f2, obs, w64_5, h1]
 cases hRd f
 ·rw [if_neg (by decide), if_neg (by decide), h0]
 ·rw [if_pos rfl, if_pos rfl, show (7 : Int) = ((7 : Nat) : Int) from rfl, f1, obs, w64_5, h0]
def hit (j w : Nat) : Prop := (j < 45 ∧ tk j w) ∨ (j = 45 ∧ w = 115) ∨ (j = 46 ∧ w = 1048691)
instance (j w : Nat) : Decidable (hit j w) := by unfold hit; infer_instance
def decv (j w : Nat) : Int × Int × Int × Int × Int × Int := if j < 45 then decx j w else ((j : Int), 0, 0, 0, 0, 0)
theorem frm_45 : frm ((45 : Nat) : Int) = 69 ∧ frm ((46 : Nat) : Int) = 69 := by decide +kernel
theorem hit_one (i j w : Nat) (hi : hit i w) (hj : hit j w) : i = j := by
 rcases hi with ⟨a1, a2⟩ | ⟨a1, a2⟩ | ⟨a1, a2⟩ <;> rcases hj with ⟨b1, b2⟩ | ⟨b1, b2⟩ | ⟨b1, b2⟩
 ·exact tells_one i j w (by omega) (by omega) a2 b2
 ·have := (tk_not i w (by omega) a2).1; omega
 ·have := (tk_not i w (by omega) a2).1; omega
 ·have := (tk_not j w (by omega) b2).1; omega
 ·omega
 ·omega
 ·have := (tk_not j w (by omega) b2).1; omega
 ·omega
 ·omega
end Go.Proofs.Ytekenddkoahjgaa.Q
