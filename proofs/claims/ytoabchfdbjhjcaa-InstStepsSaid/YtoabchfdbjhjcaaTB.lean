/- Layer 2, plain: TB -/
import Derived.Test.YtoabchfdbjhjcaaQx22
import Derived.Test.YtoabchfdbjhjcaaQx24
import Derived.Test.YtoabchfdbjhjcaaQx25
import Derived.Test.YtoabchfdbjhjcaaQx26
import Derived.Test.YtoabchfdbjhjcaaQx3
import Derived.Test.YtoabchfdbjhjcaaQx4
import Derived.Test.YtoabchfdbjhjcaaQx5
import Derived.Test.YtoabchfdbjhjcaaQx7
import Derived.Laws.BitsAllLaws
import Derived.Laws.BitsLemmas
namespace Go.Proofs.Ytoabchfdbjhjcaa.Q
open Go.RowKit Go.Proofs.YtoabchfdbjhjcaaW.PrintWords Go.Proofs.YtoabchfdbjhjcaaW.PrintLast Go.Proofs.YtoabchfdbjhjcaaW.PrintMore
set_option linter.unusedVariables false
set_option linter.unusedSimpArgs false
/-- 'bind' of something (not by definition: a rewrite that the kernel need not unfold). -/
theorem obs {α β : Type} (a : α) (f : α → Option β) : (some a).bind f = f a := by
  have h : ∀ o : Option α, o = some a → o.bind f = f a := by intro o ho; subst ho; rfl
  exact h _ rfl
theorem bit_lt (x i : Nat) : x / 2 ^ i % 2 < 2 := Nat.mod_lt _ (by omega)
theorem bit_of (x i : Nat) : x / 2 ^ i % 2 = (x.testBit i).toNat := by
  rw [Nat.testBit_eq_decide_div_mod_eq]
  have := bit_lt x i
  by_cases h : x / 2 ^ i % 2 = 1
  · simp [h]
  · simp [h]; omega
theorem nat_of_bits {x y : Nat} (h : ∀ i, x / 2 ^ i % 2 = y / 2 ^ i % 2) : x = y := by
  apply Nat.eq_of_testBit_eq
  intro i
  have := h i
  rw [bit_of, bit_of] at this
  revert this
  cases x.testBit i <;> cases y.testBit i <;> simp
theorem bit_and (a b i : Nat) : (a &&& b) / 2 ^ i % 2 = (a / 2 ^ i % 2) * (b / 2 ^ i % 2) := by
  rw [bit_of, bit_of, bit_of, Nat.testBit_and]
  cases a.testBit i <;> cases b.testBit i <;> rfl
theorem bit_or (a b i : Nat) : (a ||| b) / 2 ^ i % 2 = (a / 2 ^ i % 2) + (b / 2 ^ i % 2) - (a / 2 ^ i % 2) * (b / 2 ^ i % 2) := by
  rw [bit_of, bit_of, bit_of, Nat.testBit_or]
  cases a.testBit i <;> cases b.testBit i <;> rfl
theorem bit_xor (a b i : Nat) : (a ^^^ b) / 2 ^ i % 2 = ((a / 2 ^ i % 2) + (b / 2 ^ i % 2)) % 2 := by
  rw [bit_of, bit_of, bit_of, Nat.testBit_xor]
  cases a.testBit i <;> cases b.testBit i <;> rfl
theorem bit_mod (a n i : Nat) : (a % 2 ^ n) / 2 ^ i % 2 = if i < n then a / 2 ^ i % 2 else 0 := by
  rw [bit_of, Nat.testBit_mod_two_pow]
  by_cases h : i < n
  · simp only [h, decide_true, Bool.true_and, if_true]; rw [bit_of]
  · simp [h]
theorem bit_shr (a s i : Nat) : (a / 2 ^ s) / 2 ^ i % 2 = a / 2 ^ (i + s) % 2 := by
  rw [Nat.div_div_eq_div_mul, ← Nat.pow_add, Nat.add_comm]
theorem bit_shl (a s i : Nat) : (a * 2 ^ s) / 2 ^ i % 2 = if i < s then 0 else a / 2 ^ (i - s) % 2 := by
  rw [bit_of, ← Nat.shiftLeft_eq, Nat.testBit_shiftLeft]
  by_cases h : i < s
  · simp [h, Nat.not_le.2 h]
  · simp only [h, if_false]; rw [bit_of]; simp [Nat.not_lt.1 h]
theorem bit_big (a i n : Nat) (h : a < 2 ^ n) (hi : n ≤ i) : a / 2 ^ i % 2 = 0 := by
  rw [Nat.div_eq_of_lt (Nat.lt_of_lt_of_le h (Nat.pow_le_pow_right (by omega) hi))]
/-! ## the bits of a list: Of -/
theorem Of_loop (L : List Int) (N : Nat) (hN : N < 4294967296) (hL : L.length = 32) (hb : ∀ i : Nat, i < 32 → L.getD i 0 = ((N / 2 ^ i % 2 : Nat) : Int)) (d : Nat) :
    ∀ (k : Nat) (i : Int), i + 1 = d → i < 32 → d < k → whetstoneref01_Of.l0 k L ((N / 2 ^ d : Nat) : Int) i = some ((N : Nat) : Int) := by
  induction d with
  | zero =>
    intro k i hi h2 hk
    obtain ⟨k, rfl⟩ : ∃ m, k = m + 1 := ⟨k - 1, by omega⟩
    simp only [whetstoneref01_Of.l0]; rw [if_neg (by omega)]; simp
  | succ d ih =>
    intro k i hi h2 hk
    obtain ⟨k, rfl⟩ : ∃ m, k = m + 1 := ⟨k - 1, by omega⟩
    have hd : d < 32 := by omega
    obtain rfl : i = (d : Int) := by omega
    simp only [whetstoneref01_Of.l0]; rw [if_pos (by omega), if_pos (by omega), if_pos (by omega)]
    have e1 : rd L (d : Int) = ((N / 2 ^ d % 2 : Nat) : Int) := by unfold rd; simpa using hb d hd
    have e2 : wrap64 ((d : Int) - 1) = (d : Int) - 1 := by unfold wrap64; omega
    rw [e1, e2]
    have e3 : N / 2 ^ d = 2 * (N / 2 ^ (d + 1)) + N / 2 ^ d % 2 := by
      rw [Nat.pow_succ, ← Nat.div_div_eq_div_mul]; omega
    have e4 : N / 2 ^ d ≤ N := Nat.div_le_self _ _
    have e5 : (((N / 2 ^ (d + 1) : Nat) : Int) * 2 + ((N / 2 ^ d % 2 : Nat) : Int)) % 4294967296 = ((N / 2 ^ d : Nat) : Int) := by omega
    rw [e5]
    exact ih k (d - 1) (by omega) (by omega) (by omega)
theorem Of_eq (L : List Int) (N : Nat) (hN : N < 4294967296) (hL : L.length = 32) (hb : ∀ i : Nat, i < 32 → L.getD i 0 = ((N / 2 ^ i % 2 : Nat) : Int)) (k : Nat) (hk : 32 < k) :
    whetstoneref01_Of.f k L = some ((N : Nat) : Int) := by
  have h := Of_loop L N hN hL hb 32 k 31 (by omega) (by omega) hk
  have e : N / 2 ^ 32 = 0 := Nat.div_eq_of_lt (by omega)
  rw [e] at h
  exact h
/-- A list of 32 that is told up to a place. -/
def bl (f : Nat → Nat) (n : Nat) : List Int := (List.range 32).map fun j => if j < n then ((f j : Nat) : Int) else 0
theorem bl_length (f : Nat → Nat) (n : Nat) : (bl f n).length = 32 := by simp [bl]
theorem bl_zero (f : Nat → Nat) : List.replicate 32 (0 : Int) = bl f 0 := rfl
theorem bl_get (f : Nat → Nat) (n j : Nat) (h : j < 32) : (bl f n).getD j 0 = if j < n then ((f j : Nat) : Int) else 0 := by
  simp [bl, h]
theorem bl_set (f : Nat → Nat) (n : Nat) (h : n < 32) : (bl f n).set n ((f n : Nat) : Int) = bl f (n + 1) := by
  apply List.ext_getElem
  · simp [bl]
  · intro i h1 h2
    simp only [bl, List.length_map, List.length_range, List.length_set] at h1 h2
    rw [List.getElem_set]
    simp only [bl, List.getElem_map, List.getElem_range]
    by_cases e : n = i
    · subst e; simp
    · rw [if_neg e]
      by_cases h3 : i < n
      · rw [if_pos h3, if_pos (by omega)]
      · rw [if_neg h3, if_neg (by omega)]
theorem bl_set' (f : Nat → Nat) (n : Nat) (h : n < 32) (v : Int) (hv : v = ((f n : Nat) : Int)) : (bl f n).set ((n : Int)).toNat v = bl f (n + 1) := by
  subst hv; rw [Int.toNat_natCast]; exact bl_set f n h
theorem Of_bl (f : Nat → Nat) (N n : Nat) (hN : N < 4294967296) (hf : ∀ i, i < 32 → (if i < n then f i else 0) = N / 2 ^ i % 2) (k : Nat) (hk : 32 < k) :
    whetstoneref01_Of.f k (bl f n) = some ((N : Nat) : Int) :=
  Of_eq _ N hN (bl_length _ _) (fun i hi => by rw [bl_get _ _ _ hi]; rw [← hf i hi]; by_cases h : i < n <;> simp [h]) k hk
theorem Bit_eq (w : Nat) (hw : w < 4294967296) (i : Int) : whetstoneref01_Bit.f (w : Int) i = some ((if 0 ≤ i ∧ i ≤ 31 then w / 2 ^ i.toNat % 2 else 0 : Nat) : Int) := by
  unfold whetstoneref01_Bit.f
  by_cases h1 : i < 0
  · rw [if_pos h1, if_neg (by omega)]; rfl
  · rw [if_neg h1]
    by_cases h2 : i > 31
    · rw [if_pos h2, if_neg (by omega)]; rfl
    · rw [if_neg h2, if_pos (by omega), if_pos (by omega)]
      obtain ⟨j, rfl⟩ := Int.eq_ofNat_of_zero_le (a := i) (by omega)
      have e : shr .u32 (w : Int) (j : Int) = ((w / 2 ^ j : Nat) : Int) := by
        unfold shr
        rw [Int.toNat_natCast, show IntKind.u32.bits = 32 from rfl, Nat.min_eq_left (by omega)]
        simp
      have hle : w / 2 ^ j ≤ w := Nat.div_le_self _ _
      rw [e]
      rw [show (1 : Int) = ((1 : Nat) : Int) from rfl, u32_and_nat _ _ (by omega) (by omega), nat_mask1, Int.toNat_natCast]
/-! ## fields -/
/-- May a field be. -/
def May (p n : Int) : Prop := 0 ≤ p ∧ p < 32 ∧ 1 ≤ n ∧ n ≤ 32 - p
instance (p n : Int) : Decidable (May p n) := by unfold May; infer_instance
theorem may_eq (p n : Int) : word_may.f p n = some (decide (May p n)) := by
  unfold word_may.f wrap64
  by_cases h : May p n
  · rw [decide_eq_true h]
    unfold May at h
    rw [if_pos (by omega), if_pos (by omega), if_pos (by omega), decide_eq_true (by omega)]
  · rw [decide_eq_false h]
    unfold May at h
    repeat' split
    · rw [decide_eq_false (by omega)]
    all_goals rfl
theorem rmay_eq (p n : Int) : whetstoneref01_may.f p n = some (decide (May p n)) := by
  unfold whetstoneref01_may.f wrap64
  by_cases h : May p n
  · rw [decide_eq_true h]
    unfold May at h
    rw [if_pos (by omega), if_pos (by omega), if_pos (by omega), if_pos (by omega), decide_eq_true (by omega)]
  · rw [decide_eq_false h]
    unfold May at h
    repeat' split
    · rw [decide_eq_false (by omega)]
    all_goals rfl
theorem may_nat {p n : Nat} (hp : p < 32) (h1 : 1 ≤ n) (hn : n ≤ 32 - p) : May (p : Int) (n : Int) := by unfold May; omega
theorem two_pow_le (j n : Nat) (h : j ≤ n) : 2 ^ j ≤ 2 ^ n := Nat.pow_le_pow_right (by omega) h
theorem or_one (x : Nat) (h : x % 2 = 0) : x ||| 1 = x + 1 := nat_join 1 x 1 h (by omega)
theorem mask_loop (n : Nat) (hn : n ≤ 32) (d : Nat) : ∀ k j : Nat, j + d = n → d < k →
    word_mask.l0 k ((2 ^ j - 1 : Nat) : Int) (n : Int) (j : Int) = some ((2 ^ n - 1 : Nat) : Int) := by
  induction d with
  | zero =>
    intro k j hj hk
    obtain ⟨k, rfl⟩ : ∃ m, k = m + 1 := ⟨k - 1, by omega⟩
    obtain rfl : j = n := by omega
    simp only [word_mask.l0]; rw [if_neg (by omega)]
  | succ d ih =>
    intro k j hj hk
    obtain ⟨k, rfl⟩ : ∃ m, k = m + 1 := ⟨k - 1, by omega⟩
    simp only [word_mask.l0]; rw [if_pos (by omega)]
    have h1 := two_pow_le j 31 (by omega)
    have h0 : 0 < 2 ^ j := Nat.pow_pos (by omega)
    have hs : 2 ^ (j + 1) = 2 * 2 ^ j := by rw [Nat.pow_succ, Nat.mul_comm]
    generalize 2 ^ j = p at h1 h0 hs ⊢
    have e1 : (((p - 1 : Nat) : Int) * 2) % 4294967296 = ((2 * p - 2 : Nat) : Int) := by omega
    rw [e1, show (1 : Int) = ((1 : Nat) : Int) from rfl, u32_or_nat _ _ (by omega) (by omega), or_one _ (by omega)]
    have e2 : wrap64 ((j : Int) + ((1 : Nat) : Int)) = ((j + 1 : Nat) : Int) := by unfold wrap64; omega
    rw [e2, show 2 * p - 2 + 1 = 2 ^ (j + 1) - 1 by omega]
    exact ih k (j + 1) (by omega) (by omega)
theorem mask_eq (n : Nat) (hn : n ≤ 32) (k : Nat) (hk : n < k) : word_mask.f k (n : Int) = some ((2 ^ n - 1 : Nat) : Int) := by
  have h := mask_loop n hn n k 0 (by omega) hk
  exact h
theorem shr_nat (w s : Nat) (hs : s ≤ 32) : shr .u32 (w : Int) (s : Int) = ((w / 2 ^ s : Nat) : Int) := by
  unfold shr
  rw [Int.toNat_natCast, show IntKind.u32.bits = 32 from rfl, Nat.min_eq_left (by omega)]
  simp
theorem shl_nat (w s : Nat) (hs : s ≤ 32) : shl .u32 (w : Int) (s : Int) = ((w * 2 ^ s % 4294967296 : Nat) : Int) := by
  unfold shl
  rw [Int.toNat_natCast, show IntKind.u32.bits = 32 from rfl, Nat.min_eq_left (by omega), IntKind.wrap_u32']
  simp
theorem mod_lt32 (x n : Nat) (hn : n ≤ 32) : x % 2 ^ n < 4294967296 :=
  Nat.lt_of_lt_of_le (Nat.mod_lt _ (Nat.pow_pos (by omega))) (two_pow_le n 32 hn)
theorem Field_may (w p n : Nat) (hw : w < 4294967296) (hp : p < 32) (h1 : 1 ≤ n) (hn : n ≤ 32 - p) (k : Nat) (hk : 32 < k) :
    word_Field.f k (w : Int) (p : Int) (n : Int) = some ((w / 2 ^ p % 2 ^ n : Nat) : Int) := by
  unfold word_Field.f
  rw [may_eq, decide_eq_true (may_nat hp h1 hn)]
  simp only [obs, if_true]
  rw [if_pos (by omega), mask_eq n (by omega) k (by omega)]
  simp only [obs]
  have h2 := two_pow_le n 32 (by omega)
  have h3 : w / 2 ^ p ≤ w := Nat.div_le_self _ _
  have h4 : 0 < 2 ^ n := Nat.pow_pos (by omega)
  rw [shr_nat w p (by omega), u32_and_nat _ _ (by omega) (by omega), Nat.and_two_pow_sub_one_eq_mod]
theorem Field_not (w p n : Int) (h : ¬ May p n) (k : Nat) : word_Field.f k w p n = some 0 := by
  unfold word_Field.f
  rw [may_eq, decide_eq_false h]
  rfl
theorem rField_loop (w p n : Nat) (hw : w < 4294967296) (hp : p < 32) (h1 : 1 ≤ n) (hn : n ≤ 32 - p) (d : Nat) : ∀ k j : Nat, j + d = n → d + 33 < k →
    whetstoneref01_Field.l0 k (w : Int) (p : Int) (n : Int) (bl (fun i => w / 2 ^ (p + i) % 2) j) (j : Int) = some ((w / 2 ^ p % 2 ^ n : Nat) : Int) := by
  induction d with
  | zero =>
    intro k j hj hk
    obtain ⟨k, rfl⟩ : ∃ m, k = m + 1 := ⟨k - 1, by omega⟩
    obtain rfl : j = n := by omega
    simp only [whetstoneref01_Field.l0]; rw [if_neg (by omega)]
    rw [Of_bl _ (w / 2 ^ p % 2 ^ j) _ (mod_lt32 _ _ (by omega)) ?_ k (by omega)]
    · simp only [obs]
    intro i hi
    rw [bit_mod, bit_shr, Nat.add_comm i p]
  | succ d ih =>
    intro k j hj hk
    obtain ⟨k, rfl⟩ : ∃ m, k = m + 1 := ⟨k - 1, by omega⟩
    simp only [whetstoneref01_Field.l0]; rw [if_pos (by omega), rmay_eq, decide_eq_true (may_nat hp h1 hn)]
    simp only [obs, if_true]
    have e1 : wrap64 ((p : Int) + (j : Int)) = ((p + j : Nat) : Int) := by unfold wrap64; omega
    have e3 : whetstoneref01_Bit.f (w : Int) ((p + j : Nat) : Int) = some ((w / 2 ^ (p + j) % 2 : Nat) : Int) := by
      rw [Bit_eq w hw, if_pos (by omega), Int.toNat_natCast]
    rw [e1, e3]
    simp only [obs]
    rw [if_pos (by omega), if_pos (by rw [bl_length]; omega), bl_set' (fun i => w / 2 ^ (p + i) % 2) j (by omega) _ rfl]
    have e2 : wrap64 ((j : Int) + 1) = ((j + 1 : Nat) : Int) := by unfold wrap64; omega
    rw [e2]
    exact ih k (j + 1) (by omega) (by omega)
theorem rField_eq (w p n : Nat) (hw : w < 4294967296) (hp : p < 32) (h1 : 1 ≤ n) (hn : n ≤ 32 - p) (k : Nat) (hk : 80 < k) :
    whetstoneref01_Field.f k (w : Int) (p : Int) (n : Int) = some ((w / 2 ^ p % 2 ^ n : Nat) : Int) := by
  unfold whetstoneref01_Field.f
  rw [if_pos (by omega), bl_zero (fun i => w / 2 ^ (p + i) % 2)]
  exact rField_loop w p n hw hp h1 hn n k 0 (by omega) (by omega)
theorem Of_none (k : Nat) (hk : 32 < k) : whetstoneref01_Of.f k (List.replicate 32 0) = some 0 := by
  rw [bl_zero (fun _ => 0)]
  exact Of_bl _ 0 0 (by omega) (fun i _ => by simp) k hk
theorem rField_not (w p n : Int) (h : ¬ May p n) (k : Nat) (hk : 40 < k) : whetstoneref01_Field.f k w p n = some 0 := by
  unfold whetstoneref01_Field.f
  rw [if_pos (by omega)]
  obtain ⟨k, rfl⟩ : ∃ m, k = m + 1 := ⟨k - 1, by omega⟩
  simp only [whetstoneref01_Field.l0]
  rw [rmay_eq, decide_eq_false h]
  have e := Of_none k (by omega)
  simp only [obs, Bool.false_eq_true, if_false, e]
  split <;> rfl
/-- The field, wherever it may be. -/
def fld (w : Nat) (p n : Int) : Nat := if May p n then w / 2 ^ p.toNat % 2 ^ n.toNat else 0
theorem Field_eq (w : Nat) (hw : w < 4294967296) (p n : Int) (k : Nat) (hk : 80 < k) : word_Field.f k (w : Int) p n = some ((fld w p n : Nat) : Int) := by
  unfold fld
  by_cases h : May p n
  · rw [if_pos h]
    obtain ⟨a, b, c, d⟩ := h
    obtain ⟨p, rfl⟩ := Int.eq_ofNat_of_zero_le a
    obtain ⟨n, rfl⟩ := Int.eq_ofNat_of_zero_le (a := n) (by omega)
    exact Field_may w p n hw (by omega) (by omega) (by omega) k (by omega)
  · rw [if_neg h]; exact Field_not _ _ _ h k
theorem rField_all (w : Nat) (hw : w < 4294967296) (p n : Int) (k : Nat) (hk : 80 < k) : whetstoneref01_Field.f k (w : Int) p n = some ((fld w p n : Nat) : Int) := by
  unfold fld
  by_cases h : May p n
  · rw [if_pos h]
    obtain ⟨a, b, c, d⟩ := h
    obtain ⟨p, rfl⟩ := Int.eq_ofNat_of_zero_le a
    obtain ⟨n, rfl⟩ := Int.eq_ofNat_of_zero_le (a := n) (by omega)
    exact rField_eq w p n hw (by omega) (by omega) (by omega) k (by omega)
  · rw [if_neg h]; exact rField_not _ _ _ h k (by omega)
/-! ## Sign, Put -/
theorem mod_div_bit (w n i : Nat) (h : i < n) : w % 2 ^ n / 2 ^ i % 2 = w / 2 ^ i % 2 := by rw [bit_mod, if_pos h]
theorem high_bit (w n : Nat) (h : 1 ≤ n) : w % 2 ^ n / 2 ^ (n - 1) = w / 2 ^ (n - 1) % 2 := by
  have e : 2 ^ n = 2 ^ (n - 1) * 2 := by rw [← Nat.pow_succ]; congr 1; omega
  have := Nat.mod_mul_right_div_self w (2 ^ (n - 1)) 2
  rw [← e] at this
  exact this
/-- A word's sign. -/
def sgn (w : Nat) (n : Int) : Nat :=
  if 1 ≤ n ∧ n ≤ 31 then (if w / 2 ^ (n.toNat - 1) % 2 = 1 then w % 2 ^ n.toNat + (4294967296 - 2 ^ n.toNat) else w % 2 ^ n.toNat) else w
theorem sgn_lt (w : Nat) (hw : w < 4294967296) (n : Int) : sgn w n < 4294967296 := by
  unfold sgn
  split
  · rename_i h
    have h1 := two_pow_le n.toNat 31 (by omega)
    have h2 : w % 2 ^ n.toNat < 2 ^ n.toNat := Nat.mod_lt _ (Nat.pow_pos (by omega))
    generalize 2 ^ n.toNat = p at *
    split <;> omega
  · exact hw
theorem ones_sub (n i : Nat) (hn : n ≤ 32) : (4294967296 - 2 ^ n) / 2 ^ i % 2 = if n ≤ i ∧ i < 32 then 1 else 0 := by
  have e : 4294967296 - 2 ^ n = (2 ^ (32 - n) - 1) * 2 ^ n := by
    rw [Nat.sub_mul, ← Nat.pow_add, Nat.one_mul]; congr 1; rw [show 32 - n + n = 32 by omega]
  rw [e, bit_shl]
  by_cases h : i < n
  · rw [if_pos h, if_neg (by omega)]
  · rw [if_neg h, bit_of, Nat.testBit_two_pow_sub_one]
    by_cases h2 : i < 32
    · rw [if_pos (by omega), decide_eq_true (by omega)]; rfl
    · rw [if_neg (by omega), decide_eq_false (by omega)]; rfl
theorem add_or (x y n : Nat) (hx : x < 2 ^ n) (hy : y % 2 ^ n = 0) : x + y = y ||| x := by
  rw [nat_join n y x hy hx, Nat.add_comm]
theorem sgn_bit (w : Nat) (n : Int) (h1 : 1 ≤ n) (h2 : n ≤ 31) (i : Nat) (hi : i < 32) : sgn w n / 2 ^ i % 2 = if i < n.toNat then w / 2 ^ i % 2 else w / 2 ^ (n.toNat - 1) % 2 := by
  unfold sgn
  rw [if_pos ⟨h1, h2⟩]
  obtain ⟨m, rfl⟩ := Int.eq_ofNat_of_zero_le (a := n) (by omega)
  rw [Int.toNat_natCast]
  have hm : w % 2 ^ m < 2 ^ m := Nat.mod_lt _ (Nat.pow_pos (by omega))
  split
  · rename_i h3
    have e : 4294967296 - 2 ^ m = (2 ^ (32 - m) - 1) * 2 ^ m := by
      rw [Nat.sub_mul, ← Nat.pow_add, Nat.one_mul]; congr 1; rw [show 32 - m + m = 32 by omega]
    rw [add_or _ _ m hm (by rw [e]; exact Nat.mul_mod_left _ _), bit_or, ones_sub m i (by omega), bit_mod]
    by_cases h4 : i < m
    · rw [if_neg (by omega), if_pos h4, if_pos h4]; omega
    · rw [if_pos (by omega), if_neg h4, if_neg h4]; omega
  · rename_i h3
    rw [bit_mod]
    split
    · rfl
    · have := bit_lt w (m - 1); omega
theorem not_nat (x : Nat) (hx : x < 4294967296) : Go.bits .xor .u32 4294967295 (x : Int) = ((4294967295 - x : Nat) : Int) := by
  rw [show (4294967295 : Int) = ((4294967295 : Nat) : Int) from rfl, u32_xor_nat _ _ (by omega) hx]
  congr 1
  apply nat_of_bits
  intro i
  rw [bit_xor]
  by_cases h : i < 32
  · have e1 : 4294967295 / 2 ^ i % 2 = 1 := by
      have := Nat.testBit_two_pow_sub_one 32 i
      rw [decide_eq_true h] at this
      rw [bit_of]; exact congrArg Bool.toNat this
    have e2 : (4294967295 - x) / 2 ^ i % 2 = 1 - x / 2 ^ i % 2 := by
      have := Nat.testBit_two_pow_sub_succ (x := x) (n := 32) hx i
      rw [decide_eq_true h, Bool.true_and] at this
      rw [bit_of, bit_of, show 4294967295 - x = 2 ^ 32 - (x + 1) by omega, this]
      cases x.testBit i <;> rfl
    rw [e1, e2]
    have := bit_lt x i
    omega
  · rw [bit_big _ _ 32 (by omega) (by omega), bit_big x _ 32 hx (by omega), bit_big _ _ 32 (by omega) (by omega)]
/-- A word with bits put in. -/
def put (w : Nat) (p n : Int) (v : Nat) : Nat := if May p n then (w &&& (4294967295 - (2 ^ n.toNat - 1) * 2 ^ p.toNat)) ||| (v % 2 ^ n.toNat) * 2 ^ p.toNat else w
theorem field_fits (p n : Nat) (hn : n + p ≤ 32) (x : Nat) (hx : x < 2 ^ n) : x * 2 ^ p < 4294967296 := by
  have h1 : x * 2 ^ p < 2 ^ n * 2 ^ p := Nat.mul_lt_mul_of_pos_right hx (Nat.pow_pos (by omega))
  rw [← Nat.pow_add] at h1
  exact Nat.lt_of_lt_of_le h1 (two_pow_le (n + p) 32 hn)
theorem put_lt (w v : Nat) (hw : w < 4294967296) (p n : Int) : put w p n v < 4294967296 := by
  unfold put
  split
  · rename_i h
    obtain ⟨a, b, c, d⟩ := h
    obtain ⟨p, rfl⟩ := Int.eq_ofNat_of_zero_le a
    obtain ⟨n, rfl⟩ := Int.eq_ofNat_of_zero_le (a := n) (by omega)
    rw [Int.toNat_natCast, Int.toNat_natCast]
    have f2 := field_fits p n (by omega) (v % 2 ^ n) (Nat.mod_lt _ (Nat.pow_pos (by omega)))
    have f1 := Nat.and_le_left (n := w) (m := 4294967295 - (2 ^ n - 1) * 2 ^ p)
    exact Nat.or_lt_two_pow (n := 32) (by omega) (by omega)
  · exact hw
theorem put_bit (w v : Nat) (hw : w < 4294967296) (p n : Int) (h : May p n) (i : Nat) (hi : i < 32) :
    put w p n v / 2 ^ i % 2 = if p.toNat ≤ i ∧ i < p.toNat + n.toNat then v / 2 ^ (i - p.toNat) % 2 else w / 2 ^ i % 2 := by
  unfold put
  rw [if_pos h]
  obtain ⟨a, b, c, d⟩ := h
  obtain ⟨p, rfl⟩ := Int.eq_ofNat_of_zero_le a
  obtain ⟨n, rfl⟩ := Int.eq_ofNat_of_zero_le (a := n) (by omega)
  rw [Int.toNat_natCast, Int.toNat_natCast]
  have f1 := field_fits p n (by omega) (2 ^ n - 1) (by have : 0 < 2 ^ n := Nat.pow_pos (by omega); omega)
  have e2 : (4294967295 - (2 ^ n - 1) * 2 ^ p) / 2 ^ i % 2 = 1 - ((2 ^ n - 1) * 2 ^ p) / 2 ^ i % 2 := by
    have := Nat.testBit_two_pow_sub_succ (x := (2 ^ n - 1) * 2 ^ p) (n := 32) f1 i
    rw [decide_eq_true hi, Bool.true_and] at this
    rw [bit_of, bit_of, show 4294967295 - (2 ^ n - 1) * 2 ^ p = 2 ^ 32 - ((2 ^ n - 1) * 2 ^ p + 1) by omega, this]
    cases ((2 ^ n - 1) * 2 ^ p).testBit i <;> rfl
  rw [bit_or, bit_and, e2, bit_shl, bit_shl, bit_mod]
  have e3 : (2 ^ n - 1) / 2 ^ (i - p) % 2 = if i - p < n then 1 else 0 := by
    rw [bit_of, Nat.testBit_two_pow_sub_one]
    by_cases h : i - p < n <;> simp [h]
  rw [e3]
  have := bit_lt w i
  have := bit_lt v (i - p)
  by_cases h1 : i < p
  · simp only [h1, if_true]; rw [if_neg (by omega)]; omega
  · simp only [h1, if_false]
    by_cases h2 : i - p < n
    · simp only [h2, if_true]; rw [if_pos (by omega)]; omega
    · simp only [h2, if_false]; rw [if_neg (by omega)]; omega
/-! ## Do -/
theorem u64_id (x : Int) (h0 : 0 ≤ x) (h1 : x < 18446744073709551616) : IntKind.u64.wrap x = x := by rw [IntKind.wrap_u64]; omega
theorem w64_id (x : Int) (h0 : -9223372036854775808 ≤ x) (h1 : x < 9223372036854775808) : wrap64 x = x := by unfold wrap64; omega
theorem w64_mod (x : Int) : wrap64 x % 4294967296 = x % 4294967296 := by unfold wrap64; omega
theorem w32_mod (x : Int) : wrap32 x % 4294967296 = x % 4294967296 := by unfold wrap32; omega
theorem Bit_nat (a : Nat) (ha : a < 4294967296) (j : Nat) (hj : j < 32) : whetstoneref01_Bit.f (a : Int) (j : Int) = some ((a / 2 ^ j % 2 : Nat) : Int) := by
  rw [Bit_eq a ha, if_pos (by omega), Int.toNat_natCast]
theorem and31 (b : Nat) (hb : b < 4294967296) : Go.bits .and .u32 (b : Int) 31 = ((b % 32 : Nat) : Int) := by
  rw [show (31 : Int) = ((31 : Nat) : Int) from rfl, u32_and_nat _ _ hb (by omega), nat_mask5]
theorem by_eq (b : Nat) (hb : b < 4294967296) : wrap64 (Int.tmod (b : Int) 32) = ((b % 32 : Nat) : Int) := by
  rw [show Int.tmod (b : Int) 32 = ((b % 32 : Nat) : Int) from rfl, w64_id _ (by omega) (by omega)]
/-- A shift to the right with the sign. -/
def sra (a s : Nat) : Nat := if a < 2147483648 then a / 2 ^ s else a / 2 ^ s + (4294967296 - 2 ^ (32 - s))
theorem sra_eq (a s : Nat) (ha : a < 4294967296) (hs : s < 32) : (shr .i32 (wrap32 (a : Int)) (s : Int)) % 4294967296 = ((sra a s : Nat) : Int) := by
  unfold shr sra
  rw [Int.toNat_natCast, show IntKind.i32.bits = 32 from rfl, Nat.min_eq_left (by omega)]
  have h0 : 0 < 2 ^ s := Nat.pow_pos (by omega)
  have e1 : 2 ^ (32 - s) * 2 ^ s = 4294967296 := by rw [← Nat.pow_add, show 32 - s + s = 32 by omega]
  have h2 : a / 2 ^ s ≤ a := Nat.div_le_self _ _
  have hq : (2 : Int) ^ s = ((2 ^ s : Nat) : Int) := (Int.natCast_pow 2 s).symm
  rw [hq]
  split
  · rename_i h
    rw [show wrap32 (a : Int) = (a : Int) by unfold wrap32; omega, ← Int.natCast_ediv]
    generalize a / 2 ^ s = t at *
    omega
  · rename_i h
    have h4 : a / 2 ^ s < 2 ^ (32 - s) := by
      apply Nat.div_lt_of_lt_mul; rw [Nat.mul_comm, e1]; exact ha
    have h6 : 2 ≤ 2 ^ (32 - s) := two_pow_le 1 (32 - s) (by omega)
    have h7 : 2 ^ (32 - s) ≤ 4294967296 := two_pow_le (32 - s) 32 (by omega)
    generalize 2 ^ (32 - s) = q at *
    have e5 : wrap32 (a : Int) = (a : Int) + (-(q : Int)) * ((2 ^ s : Nat) : Int) := by
      rw [Int.neg_mul, ← Int.natCast_mul, e1]
      unfold wrap32; omega
    rw [e5, Int.add_mul_ediv_right _ _ (by omega), ← Int.natCast_ediv]
    generalize a / 2 ^ s = t at *
    clear e5 e1 hq
    omega
theorem sra_bit (a s : Nat) (ha : a < 4294967296) (hs : s < 32) (i : Nat) (hi : i < 32) :
    sra a s / 2 ^ i % 2 = if i + s > 31 then a / 2 ^ 31 % 2 else a / 2 ^ (i + s) % 2 := by
  unfold sra
  have h31 : a / 2 ^ 31 % 2 = if a < 2147483648 then 0 else 1 := by split <;> omega
  split
  · rename_i h
    rw [bit_shr, h31, if_pos h]
    split
    · rw [bit_big a _ 31 (by omega) (by omega)]
    · rfl
  · rename_i h
    have e1 : 2 ^ (32 - s) * 2 ^ s = 4294967296 := by rw [← Nat.pow_add, show 32 - s + s = 32 by omega]
    have h4 : a / 2 ^ s < 2 ^ (32 - s) := by
      apply Nat.div_lt_of_lt_mul; rw [Nat.mul_comm, e1]; exact ha
    have e : 4294967296 - 2 ^ (32 - s) = (2 ^ (32 - (32 - s)) - 1) * 2 ^ (32 - s) := by
      rw [Nat.sub_mul, ← Nat.pow_add, Nat.one_mul]; congr 1; rw [show 32 - (32 - s) + (32 - s) = 32 by omega]
    rw [add_or _ _ _ h4 (by rw [e]; exact Nat.mul_mod_left _ _), bit_or, ones_sub _ _ (by omega), bit_shr, h31, if_neg h]
    by_cases h5 : i + s > 31
    · rw [if_pos h5, if_pos (by omega), bit_big a (i + s) 32 (by omega) (by omega)]
    · rw [if_neg h5, if_neg (by omega)]
      have := bit_lt a (i + s)
      omega
theorem sra_lt (a s : Nat) (ha : a < 4294967296) (hs : s < 32) : sra a s < 4294967296 := by
  have := sra_eq a s ha hs
  omega
theorem cut_mul (x y z w : Nat) : (65536 * x + y) * (65536 * z + w) = 4294967296 * (x * z) + 65536 * (x * w) + 65536 * (y * z) + y * w := by grind
theorem mul_bound (x y m n : Nat) (hx : x < m) (hy : y < n) : x * y ≤ (m - 1) * (n - 1) := Nat.mul_le_mul (by omega) (by omega)
theorem tdiv_nat (a b : Nat) : Int.tdiv (a : Int) (b : Int) = ((a / b : Nat) : Int) := rfl
theorem tmod_nat (a b : Nat) : Int.tmod (a : Int) (b : Int) = ((a % b : Nat) : Int) := rfl
/-! ## division -/
theorem wrap32_ne (b : Nat) (hb : b < 4294967296) (h : b ≠ 0) : wrap32 (b : Int) ≠ 0 := by unfold wrap32; omega
theorem wrap32_bd (b : Nat) : -2147483648 ≤ wrap32 (b : Int) ∧ wrap32 (b : Int) ≤ 2147483647 := by unfold wrap32; omega
theorem tdiv_bd (x y : Int) (hx : -2147483648 ≤ x ∧ x ≤ 2147483648) : -2147483648 ≤ Int.tdiv x y ∧ Int.tdiv x y ≤ 2147483648 := by
  have h := Int.natAbs_tdiv_le_natAbs x y
  omega
theorem rem_word (x y : Int) (hx : -2147483648 ≤ x ∧ x ≤ 4294967296) (hy : -2147483648 ≤ y ∧ y ≤ 4294967296) (hq : -4294967296 ≤ Int.tdiv x y ∧ Int.tdiv x y ≤ 4294967296) :
    wrap64 (x - wrap64 (wrap64 (Int.tdiv x y) * y)) % 4294967296 = Int.tmod x y % 4294967296 := by
  rw [w64_id (Int.tdiv x y) (by omega) (by omega), w64_mod]
  have e : Int.tmod x y = x - Int.tdiv x y * y := by
    have := Int.tmod_add_mul_tdiv x y
    rw [Int.mul_comm] at this
    omega
  rw [e]
  generalize Int.tdiv x y * y = t
  unfold wrap64
  omega
/-! ## the whole reckoning -/
/-! ## for the laws -/
theorem of_u32 {x : Int} (h : (Lit.int .u32 x).wf = true) : ∃ n : Nat, x = (n : Int) ∧ n < 4294967296 := by
  simp [Lit.wf, IntKind.min, IntKind.max, IntKind.signed, IntKind.bits] at h
  exact ⟨x.toNat, by omega, by omega⟩
theorem of_i64 {x : Int} (h : (Lit.int .i64 x).wf = true) : -9223372036854775808 ≤ x ∧ x ≤ 9223372036854775807 := by
  simp [Lit.wf, IntKind.min, IntKind.max, IntKind.signed, IntKind.bits] at h
  exact ⟨by omega, by omega⟩
theorem and_i64 (x : Int) (h : -9223372036854775808 ≤ x ∧ x ≤ 9223372036854775807) (n : Nat) (hn : n ≤ 32) : Go.bits .and .i64 x ((2 ^ n - 1 : Nat) : Int) = x % ((2 ^ n : Nat) : Int) := by
  have h1 := two_pow_le n 32 hn
  have h0 : 0 < 2 ^ n := Nat.pow_pos (by omega)
  have e1 : (BitVec.ofInt 64 x).toNat = (x % 18446744073709551616).toNat := by rw [BitVec.toNat_ofInt]; rfl
  have e2 : (BitVec.ofInt 64 ((2 ^ n - 1 : Nat) : Int)).toNat = 2 ^ n - 1 := by
    rw [BitVec.ofInt_natCast, BitVec.toNat_ofNat]; exact Nat.mod_eq_of_lt (by omega)
  show IntKind.i64.wrap ((BitVec.ofInt 64 x &&& BitVec.ofInt 64 ((2 ^ n - 1 : Nat) : Int)).toNat : Int) = _
  rw [BitVec.toNat_and, e1, e2, Nat.and_two_pow_sub_one_eq_mod, Int.natCast_emod, Int.toNat_of_nonneg (by omega)]
  have e3 : x % 18446744073709551616 % ((2 ^ n : Nat) : Int) = x % ((2 ^ n : Nat) : Int) := by
    apply Int.emod_emod_of_dvd
    refine ⟨((2 ^ (64 - n) : Nat) : Int), ?_⟩
    rw [← Int.natCast_mul, ← Nat.pow_add, show n + (64 - n) = 64 by omega]
    rfl
  rw [e3, IntKind.wrap_i64]
  have h2 := Int.emod_nonneg x (b := ((2 ^ n : Nat) : Int)) (by omega)
  have h3 := Int.emod_lt_of_pos x (b := ((2 ^ n : Nat) : Int)) (by omega)
  generalize x % ((2 ^ n : Nat) : Int) = r at *
  omega
theorem ext32 {x y : Nat} (hx : x < 4294967296) (hy : y < 4294967296) (h : ∀ i, i < 32 → x / 2 ^ i % 2 = y / 2 ^ i % 2) : x = y := by
  apply nat_of_bits
  intro i
  by_cases hi : i < 32
  · exact h i hi
  · rw [bit_big x i 32 hx (by omega), bit_big y i 32 hy (by omega)]
theorem Sign_eq (w : Nat) (hw : w < 4294967296) (n : Int) (k : Nat) (hk : 80 < k) : word_Sign.f k (w : Int) n = some ((sgn w n : Nat) : Int) := by
  obtain ⟨k, rfl⟩ : ∃ m, k = m + 1 := ⟨k - 1, by omega⟩
  unfold word_Sign.f
  by_cases h : 1 ≤ n ∧ n ≤ 31
  · rw [if_neg (by omega), decide_eq_false (by omega)]
    simp only [word_Sign.j0]
    unfold sgn
    rw [if_neg (by decide), if_pos h]
    obtain ⟨m, rfl⟩ := Int.eq_ofNat_of_zero_le (a := n) (by omega)
    have hp := two_pow_le m 31 (by omega)
    have h0 : 0 < 2 ^ m := Nat.pow_pos (by omega)
    have hlt : w % 2 ^ m < 2 ^ m := Nat.mod_lt _ h0
    have e1 : wrap64 ((m : Int) - 1) = ((m - 1 : Nat) : Int) := by unfold wrap64; omega
    rw [mask_eq m (by omega) k (by omega), obs, u32_and_nat _ _ hw (by omega), Nat.and_two_pow_sub_one_eq_mod, e1, if_pos (by omega), shr_nat _ _ (by omega), high_bit w m (by omega), Int.toNat_natCast]
    by_cases hb : w / 2 ^ (m - 1) % 2 = 1
    · rw [if_pos (by omega), if_pos hb, obs, not_nat _ (by omega), u32_or_nat _ _ (by omega) (by omega)]
      have e2 : 4294967296 - 2 ^ m = (2 ^ (32 - m) - 1) * 2 ^ m := by
        rw [Nat.sub_mul, ← Nat.pow_add, Nat.one_mul]; congr 1; rw [show 32 - m + m = 32 by omega]
      rw [show 4294967295 - (2 ^ m - 1) = 4294967296 - 2 ^ m by omega, Nat.or_comm, ← add_or _ _ m hlt (by rw [e2]; exact Nat.mul_mod_left _ _)]
    · rw [if_neg (by omega), if_neg hb]
  · unfold sgn
    rw [if_neg h]
    by_cases h3 : n < 1
    · rw [if_pos h3]; simp only [word_Sign.j0, if_true]
    · rw [if_neg h3, decide_eq_true (by omega)]; simp only [word_Sign.j0, if_true]
theorem and_add_or (n : Nat) : ∀ a b : Nat, a < 2 ^ n → b < 2 ^ n → (a &&& b) + (a ||| b) = a + b ∧ (a ^^^ b) + (a &&& b) = (a ||| b) := by
  induction n with
  | zero => intro a b ha hb; obtain rfl : a = 0 := by omega
            obtain rfl : b = 0 := by omega
            exact ⟨rfl, rfl⟩
  | succ n ih =>
    intro a b ha hb
    rw [Nat.pow_succ] at ha hb
    obtain ⟨h1, h2⟩ := ih (a / 2) (b / 2) (by omega) (by omega)
    have d1 : (a &&& b) / 2 = a / 2 &&& b / 2 := Nat.and_div_two
    have d2 : (a ||| b) / 2 = a / 2 ||| b / 2 := Nat.or_div_two
    have d3 : (a ^^^ b) / 2 = a / 2 ^^^ b / 2 := Nat.xor_div_two
    have m1 := bit_and a b 0
    have m2 := bit_or a b 0
    have m3 := bit_xor a b 0
    simp only [Nat.pow_zero, Nat.div_one] at m1 m2 m3
    have h01 : a % 2 = 0 ∨ a % 2 = 1 := by omega
    have h02 : b % 2 = 0 ∨ b % 2 = 1 := by omega
    rcases h01 with h | h <;> rcases h02 with h' | h' <;> rw [h, h'] at m1 m2 m3 <;> constructor <;> omega
theorem put_whole (w v : Nat) (hw : w < 4294967296) (p n : Nat) (hp : p < 32) (h1 : 1 ≤ n) (hn : n ≤ 32 - p) : put w (p : Int) (n : Int) v / 2 ^ p % 2 ^ n = v % 2 ^ n := by
  have hm := may_nat hp h1 hn
  apply nat_of_bits
  intro i
  rw [bit_mod, bit_mod]
  by_cases h : i < n
  · rw [if_pos h, if_pos h, bit_shr, put_bit w v hw _ _ hm (i + p) (by omega), Int.toNat_natCast, Int.toNat_natCast, if_pos (by omega), show i + p - p = i by omega]
  · rw [if_neg h, if_neg h]
theorem put_back (w v : Nat) (hw : w < 4294967296) (p n : Nat) (hp : p < 32) (h1 : 1 ≤ n) (hn : n ≤ 32 - p) :
    put (put w (p : Int) (n : Int) v) (p : Int) (n : Int) (w / 2 ^ p % 2 ^ n) = w := by
  have hm := may_nat hp h1 hn
  have l1 := put_lt w v hw (p : Int) (n : Int)
  apply ext32 (put_lt _ _ l1 _ _) hw
  intro i hi
  rw [put_bit _ _ l1 _ _ hm i hi, Int.toNat_natCast, Int.toNat_natCast]
  by_cases h : p ≤ i ∧ i < p + n
  · rw [if_pos h, bit_mod, if_pos (by omega), bit_shr, show i - p + p = i by omega]
  · rw [if_neg h, put_bit w v hw _ _ hm i hi, Int.toNat_natCast, Int.toNat_natCast, if_neg h]
theorem sgn_mod (v n : Nat) (hn : n < 32) (h1 : 1 ≤ n) : sgn (v % 2 ^ n) (n : Int) = sgn v (n : Int) ∧ sgn v (n : Int) % 2 ^ n = v % 2 ^ n := by
  have hc : (1 : Int) ≤ (n : Int) ∧ (n : Int) ≤ 31 := by omega
  have e0 : (v % 2 ^ n) / 2 ^ (n - 1) % 2 = v / 2 ^ (n - 1) % 2 := by rw [← high_bit v n h1, ← high_bit (v % 2 ^ n) n h1, Nat.mod_mod]
  unfold sgn
  rw [if_pos hc, if_pos hc, Int.toNat_natCast, Nat.mod_mod, e0]
  refine ⟨rfl, ?_⟩
  have e2 : 4294967296 - 2 ^ n = (2 ^ (32 - n) - 1) * 2 ^ n := by
    rw [Nat.sub_mul, ← Nat.pow_add, Nat.one_mul]; congr 1; rw [show 32 - n + n = 32 by omega]
  split
  · rw [e2, Nat.add_mul_mod_self_right, Nat.mod_mod]
  · rw [Nat.mod_mod]
theorem tmod_lt_nat (c m : Nat) (hm : 0 < m) : Int.tmod (c : Int) (m : Int) = ((c % m : Nat) : Int) ∧ c % m < m := ⟨rfl, Nat.mod_lt _ hm⟩
theorem fld0 (x n : Nat) (hx : x < 4294967296) (hn1 : 1 ≤ n) (hn2 : n ≤ 32) (k : Nat) (hk : 80 < k) : word_Field.f k (x : Int) 0 (n : Int) = some ((x % 2 ^ n : Nat) : Int) := by
  have := Field_may x 0 n hx (by omega) hn1 (by omega) k (by omega)
  rw [Nat.pow_zero, Nat.div_one] at this
  exact this
theorem back_n (p c : Nat) (hp : p < 32) : wrap64 (32 - (p : Int)) = ((32 - p : Nat) : Int) ∧ wrap64 (1 + Int.tmod (c : Int) ((32 - p : Nat) : Int)) = ((1 + c % (32 - p) : Nat) : Int) ∧ c % (32 - p) < 32 - p := by
  have hcm : c % (32 - p) < 32 - p := Nat.mod_lt _ (by omega)
  refine ⟨by unfold wrap64; omega, ?_, hcm⟩
  rw [tmod_nat]; generalize c % (32 - p) = x at *; unfold wrap64; omega
theorem i64_nat (x : Int) (h : (Lit.int .i64 x).wf = true) (n : Nat) (hn : n ≤ 32) : ∃ p : Nat, Go.bits .and .i64 x ((2 ^ n - 1 : Nat) : Int) = (p : Int) ∧ p < 2 ^ n := by
  have h0 : 0 < 2 ^ n := Nat.pow_pos (by omega)
  rw [and_i64 x (of_i64 h) n hn]
  have h1 := Int.emod_nonneg x (b := ((2 ^ n : Nat) : Int)) (by omega)
  have h2 := Int.emod_lt_of_pos x (b := ((2 ^ n : Nat) : Int)) (by omega)
  obtain ⟨p, hp⟩ := Int.eq_ofNat_of_zero_le h1
  exact ⟨p, hp, by rw [hp] at h2; omega⟩
theorem emod_mul_w (X : Int) (b : Nat) : (X % 4294967296 * (b : Int)) % 4294967296 = (X * wrap32 (b : Int)) % 4294967296 := by
  rw [Int.mul_emod, Int.emod_emod, ← w32_mod (b : Int), ← Int.mul_emod]
theorem div_key (x y : Int) (a b q r : Nat) (hx : x % 4294967296 = (a : Int)) (hy : y = wrap32 (b : Int)) (hq : Int.tdiv x y % 4294967296 = (q : Int)) (hr : Int.tmod x y % 4294967296 = (r : Int)) :
    (((q * b % 4294967296 + r : Nat) : Int)) % 4294967296 = (a : Int) := by
  have e := Int.tmod_add_mul_tdiv x y
  have h1 : ((q * b % 4294967296 : Nat) : Int) = (Int.tdiv x y * y) % 4294967296 := by
    rw [Int.natCast_emod, Int.natCast_mul, ← hq, show ((4294967296 : Nat) : Int) = 4294967296 from rfl, emod_mul_w, hy]
  rw [Int.natCast_add, h1, ← hr, ← Int.add_emod, Int.add_comm, Int.mul_comm, e, hx]
theorem rem_sign (x y : Int) (a r : Nat) (ha : a < 4294967296) (hx : x = (a : Int) - (if 2147483648 ≤ a then 4294967296 else 0)) (hr : Int.tmod x y % 4294967296 = (r : Int)) (hr0 : r ≠ 0) :
    (r : Int) / 2147483648 = (a : Int) / 2147483648 := by
  have n1 := Int.natAbs_tmod x y
  have n2 : x.natAbs % y.natAbs ≤ x.natAbs := Nat.mod_le _ _
  by_cases hs : 2147483648 ≤ a
  · rw [if_pos hs] at hx
    have sg : Int.tmod x y ≤ 0 := by
      have := Int.tmod_nonneg (a := -x) y (by omega)
      rw [Int.neg_tmod] at this
      omega
    generalize Int.tmod x y = t at *
    generalize x.natAbs % y.natAbs = m at *
    omega
  · rw [if_neg hs] at hx
    have sg := Int.tmod_nonneg (a := x) y (by omega)
    generalize Int.tmod x y = t at *
    generalize x.natAbs % y.natAbs = m at *
    omega
theorem div_uns (a b : Nat) (ha : a < 4294967296) : ((((a / b : Nat) : Int) % 4294967296 * (b : Int)) + ((a % b : Nat) : Int)) % 4294967296 = (a : Int) := by
  have hs : a / b * b + a % b = a := by rw [Nat.mul_comm]; exact Nat.div_add_mod a b
  have hs2 : a / b ≤ a := Nat.div_le_self _ _
  have h1 : ((a / b : Nat) : Int) % 4294967296 = ((a / b : Nat) : Int) := by generalize a / b = x at *; omega
  rw [h1, ← Int.natCast_mul, ← Int.natCast_add, hs]
  omega
theorem sra_not (a s : Nat) (ha : a < 4294967296) (hs : s < 32) : 4294967295 - sra (4294967295 - a) s = sra a s := by
  have l1 := sra_lt (4294967295 - a) s (by omega) hs
  have l2 := sra_lt a s ha hs
  have nb (x i : Nat) (hx : x < 4294967296) (hi : i < 32) : (4294967295 - x) / 2 ^ i % 2 = 1 - x / 2 ^ i % 2 := by
    have := Nat.testBit_two_pow_sub_succ (x := x) (n := 32) hx i
    rw [decide_eq_true hi, Bool.true_and] at this
    rw [bit_of, bit_of, show 4294967295 - x = 2 ^ 32 - (x + 1) by omega, this]
    cases x.testBit i <;> rfl
  apply ext32 (by omega) l2
  intro i hi
  rw [nb _ i l1 hi, sra_bit _ s (by omega) hs i hi, sra_bit a s ha hs i hi]
  split
  · rw [nb a 31 ha (by omega)]; have := bit_lt a 31; omega
  · rw [nb a (i + s) ha (by omega)]; have := bit_lt a (i + s); omega
theorem shl_shr (a k : Nat) (hk : k < 32) : a * 2 ^ k % 4294967296 / 2 ^ k = a % 2 ^ (32 - k) := by
  have e : 4294967296 = 2 ^ k * 2 ^ (32 - k) := by rw [← Nat.pow_add, show k + (32 - k) = 32 by omega]
  rw [e, Nat.mul_comm a, Nat.mul_mod_mul_left, Nat.mul_div_cancel_left _ (Nat.pow_pos (by omega))]
theorem shr_shl (a k : Nat) (ha : a < 4294967296) (hk : k < 32) (h1 : 1 ≤ k) : a / 2 ^ k * 2 ^ k % 4294967296 = put a 0 (k : Int) 0 := by
  have hle : a / 2 ^ k * 2 ^ k ≤ a := Nat.div_mul_le_self _ _
  have hm : May ((0 : Nat) : Int) (k : Int) := may_nat (by omega) h1 (by omega)
  have hm : May (0 : Int) (k : Int) := hm
  rw [Nat.mod_eq_of_lt (by omega)]
  apply ext32 (by omega) (put_lt a 0 ha _ _)
  intro i hi
  rw [put_bit a 0 ha _ _ hm i hi, bit_shl, Int.toNat_natCast, show (0 : Int).toNat = 0 from rfl]
  by_cases h : i < k
  · rw [if_pos h, if_pos (by omega), Nat.zero_div]
  · rw [if_neg h, if_neg (by omega), bit_shr, show i - k + k = i by omega]
theorem whole (t : Nat) (ht : t < 18446744073709551616) : Go.bits .or .u64 (IntKind.u64.wrap ((IntKind.u64.wrap (((t / 4294967296 : Nat) : Int))) * 4294967296)) (IntKind.u64.wrap (((t % 4294967296 : Nat) : Int))) = (t : Int) := by
  have h1 : IntKind.u64.wrap (((t / 4294967296 : Nat) : Int)) = ((t / 4294967296 : Nat) : Int) := u64_id _ (by omega) (by omega)
  have h2 : IntKind.u64.wrap (((t / 4294967296 : Nat) : Int) * 4294967296) = ((t / 4294967296 * 4294967296 : Nat) : Int) := by rw [u64_id _ (by omega) (by omega)]; omega
  have h3 : IntKind.u64.wrap (((t % 4294967296 : Nat) : Int)) = ((t % 4294967296 : Nat) : Int) := u64_id _ (by omega) (by omega)
  rw [h1, h2, h3, u64_or_nat _ _ (by omega) (by omega), nat_join 32 _ _ (Nat.mul_mod_left _ _) (Nat.mod_lt _ (by decide))]
  omega
theorem halves_core (w v n : Nat) (hw : w < 4294967296) (hv : v < 4294967296) (h1 : 1 ≤ n) (h2 : n ≤ 31) :
    put (put v 0 (n : Int) (w % 2 ^ n)) (n : Int) ((32 - n : Nat) : Int) (w / 2 ^ n % 2 ^ (32 - n)) = w := by
  have m1 : May ((0 : Nat) : Int) (n : Int) := may_nat (by omega) h1 (by omega)
  have m1 : May (0 : Int) (n : Int) := m1
  have m2 : May (n : Int) ((32 - n : Nat) : Int) := may_nat (by omega) (by omega) (by omega)
  have l1 := put_lt v (w % 2 ^ n) hv 0 (n : Int)
  apply ext32 (put_lt _ _ l1 _ _) hw
  intro i hi
  rw [put_bit _ _ l1 _ _ m2 i hi, Int.toNat_natCast, Int.toNat_natCast]
  by_cases h : i < n
  · rw [if_neg (by omega), put_bit v _ hv _ _ m1 i hi, Int.toNat_natCast, show (0 : Int).toNat = 0 from rfl, if_pos (by omega), bit_mod, if_pos (by omega), Nat.sub_zero]
  · rw [if_pos (by omega), bit_mod, if_pos (by omega), bit_shr, show i - n + n = i by omega]
end Go.Proofs.Ytoabchfdbjhjcaa.Q
