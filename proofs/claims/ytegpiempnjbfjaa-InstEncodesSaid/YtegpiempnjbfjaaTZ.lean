/- Layer 2, plain: TZ -/
import Derived.Test.YtegpiempnjbfjaaQx10
import Derived.Test.YtegpiempnjbfjaaQx12
import Derived.Test.YtegpiempnjbfjaaQx13
import Derived.Test.YtegpiempnjbfjaaQx15
import Derived.Test.YtegpiempnjbfjaaQx16
import Derived.Test.YtegpiempnjbfjaaQx17
import Derived.Test.YtegpiempnjbfjaaQx18
import Derived.Test.YtegpiempnjbfjaaQx2
import Derived.Test.YtegpiempnjbfjaaQx3
import Derived.Test.YtegpiempnjbfjaaQx4
import Derived.Test.YtegpiempnjbfjaaQx5
import Derived.Test.YtegpiempnjbfjaaQx6
import Derived.Test.YtegpiempnjbfjaaQx7
import Derived.Test.YtegpiempnjbfjaaQx8
import Derived.Test.YtegpiempnjbfjaaQx9
import Derived.Laws.BitsAllLaws
import Derived.Laws.BitsLemmas
namespace Go.Proofs.Ytegpiempnjbfjaa.Q
open Go.RowKit Go.Proofs.YtegpiempnjbfjaaW.PrintWords Go.Proofs.YtegpiempnjbfjaaW.PrintLast Go.Proofs.YtegpiempnjbfjaaW.PrintMore
set_option linter.unusedVariables false
set_option linter.unusedSimpArgs false
/-- 'bind' of something (not by definition: a rewrite that the kernel need not unfold). -/
theorem obs {α β : Type} (a : α) (f : α → Option β) : (some a).bind f = f a := by
  have h : ∀ o : Option α, o = some a → o.bind f = f a := by intro o ho; subst ho; rfl
  exact h _ rfl
theorem bit_lt (x i : Nat) : x / 2 ^ i % 2 < 2 := Nat.mod_lt _ (by omega)
theorem bit_of (x i : Nat) : x / 2 ^ i % 2 = (x.testBit i).toNat := by
  rw [Nat.testBit_eq_decide_div_mod_eq]
  have := bit_lt x i
  by_cases h : x / 2 ^ i % 2 = 1
  · simp [h]
  · simp [h]; omega
theorem nat_of_bits {x y : Nat} (h : ∀ i, x / 2 ^ i % 2 = y / 2 ^ i % 2) : x = y := by
  apply Nat.eq_of_testBit_eq
  intro i
  have := h i
  rw [bit_of, bit_of] at this
  revert this
  cases x.testBit i <;> cases y.testBit i <;> simp
theorem bit_and (a b i : Nat) : (a &&& b) / 2 ^ i % 2 = (a / 2 ^ i % 2) * (b / 2 ^ i % 2) := by
  rw [bit_of, bit_of, bit_of, Nat.testBit_and]
  cases a.testBit i <;> cases b.testBit i <;> rfl
theorem bit_or (a b i : Nat) : (a ||| b) / 2 ^ i % 2 = (a / 2 ^ i % 2) + (b / 2 ^ i % 2) - (a / 2 ^ i % 2) * (b / 2 ^ i % 2) := by
  rw [bit_of, bit_of, bit_of, Nat.testBit_or]
  cases a.testBit i <;> cases b.testBit i <;> rfl
theorem bit_xor (a b i : Nat) : (a ^^^ b) / 2 ^ i % 2 = ((a / 2 ^ i % 2) + (b / 2 ^ i % 2)) % 2 := by
  rw [bit_of, bit_of, bit_of, Nat.testBit_xor]
  cases a.testBit i <;> cases b.testBit i <;> rfl
theorem bit_mod (a n i : Nat) : (a % 2 ^ n) / 2 ^ i % 2 = if i < n then a / 2 ^ i % 2 else 0 := by
  rw [bit_of, Nat.testBit_mod_two_pow]
  by_cases h : i < n
  · simp only [h, decide_true, Bool.true_and, if_true]; rw [bit_of]
  · simp [h]
theorem bit_shr (a s i : Nat) : (a / 2 ^ s) / 2 ^ i % 2 = a / 2 ^ (i + s) % 2 := by
  rw [Nat.div_div_eq_div_mul, ← Nat.pow_add, Nat.add_comm]
theorem bit_shl (a s i : Nat) : (a * 2 ^ s) / 2 ^ i % 2 = if i < s then 0 else a / 2 ^ (i - s) % 2 := by
  rw [bit_of, ← Nat.shiftLeft_eq, Nat.testBit_shiftLeft]
  by_cases h : i < s
  · simp [h, Nat.not_le.2 h]
  · simp only [h, if_false]; rw [bit_of]; simp [Nat.not_lt.1 h]
theorem bit_big (a i n : Nat) (h : a < 2 ^ n) (hi : n ≤ i) : a / 2 ^ i % 2 = 0 := by
  rw [Nat.div_eq_of_lt (Nat.lt_of_lt_of_le h (Nat.pow_le_pow_right (by omega) hi))]
/-! ## the bits of a list: Of -/
theorem Of_loop (L : List Int) (N : Nat) (hN : N < 4294967296) (hL : L.length = 32) (hb : ∀ i : Nat, i < 32 → L.getD i 0 = ((N / 2 ^ i % 2 : Nat) : Int)) (d : Nat) :
    ∀ (k : Nat) (i : Int), i + 1 = d → i < 32 → d < k → whetstoneref01_Of.l0 k L ((N / 2 ^ d : Nat) : Int) i = some ((N : Nat) : Int) := by
  induction d with
  | zero =>
    intro k i hi h2 hk
    obtain ⟨k, rfl⟩ : ∃ m, k = m + 1 := ⟨k - 1, by omega⟩
    simp only [whetstoneref01_Of.l0]; rw [if_neg (by omega)]; simp
  | succ d ih =>
    intro k i hi h2 hk
    obtain ⟨k, rfl⟩ : ∃ m, k = m + 1 := ⟨k - 1, by omega⟩
    have hd : d < 32 := by omega
    obtain rfl : i = (d : Int) := by omega
    simp only [whetstoneref01_Of.l0]; rw [if_pos (by omega), if_pos (by omega), if_pos (by omega)]
    have e1 : rd L (d : Int) = ((N / 2 ^ d % 2 : Nat) : Int) := by unfold rd; simpa using hb d hd
    have e2 : wrap64 ((d : Int) - 1) = (d : Int) - 1 := by unfold wrap64; omega
    rw [e1, e2]
    have e3 : N / 2 ^ d = 2 * (N / 2 ^ (d + 1)) + N / 2 ^ d % 2 := by
      rw [Nat.pow_succ, ← Nat.div_div_eq_div_mul]; omega
    have e4 : N / 2 ^ d ≤ N := Nat.div_le_self _ _
    have e5 : (((N / 2 ^ (d + 1) : Nat) : Int) * 2 + ((N / 2 ^ d % 2 : Nat) : Int)) % 4294967296 = ((N / 2 ^ d : Nat) : Int) := by omega
    rw [e5]
    exact ih k (d - 1) (by omega) (by omega) (by omega)
theorem Of_eq (L : List Int) (N : Nat) (hN : N < 4294967296) (hL : L.length = 32) (hb : ∀ i : Nat, i < 32 → L.getD i 0 = ((N / 2 ^ i % 2 : Nat) : Int)) (k : Nat) (hk : 32 < k) :
    whetstoneref01_Of.f k L = some ((N : Nat) : Int) := by
  have h := Of_loop L N hN hL hb 32 k 31 (by omega) (by omega) hk
  have e : N / 2 ^ 32 = 0 := Nat.div_eq_of_lt (by omega)
  rw [e] at h
  exact h
/-- A list of 32 that is told up to a place. -/
def bl (f : Nat → Nat) (n : Nat) : List Int := (List.range 32).map fun j => if j < n then ((f j : Nat) : Int) else 0
theorem bl_length (f : Nat → Nat) (n : Nat) : (bl f n).length = 32 := by simp [bl]
theorem bl_zero (f : Nat → Nat) : List.replicate 32 (0 : Int) = bl f 0 := rfl
theorem bl_get (f : Nat → Nat) (n j : Nat) (h : j < 32) : (bl f n).getD j 0 = if j < n then ((f j : Nat) : Int) else 0 := by
  simp [bl, h]
theorem bl_set (f : Nat → Nat) (n : Nat) (h : n < 32) : (bl f n).set n ((f n : Nat) : Int) = bl f (n + 1) := by
  apply List.ext_getElem
  · simp [bl]
  · intro i h1 h2
    simp only [bl, List.length_map, List.length_range, List.length_set] at h1 h2
    rw [List.getElem_set]
    simp only [bl, List.getElem_map, List.getElem_range]
    by_cases e : n = i
    · subst e; simp
    · rw [if_neg e]
      by_cases h3 : i < n
      · rw [if_pos h3, if_pos (by omega)]
      · rw [if_neg h3, if_neg (by omega)]
theorem bl_set' (f : Nat → Nat) (n : Nat) (h : n < 32) (v : Int) (hv : v = ((f n : Nat) : Int)) : (bl f n).set ((n : Int)).toNat v = bl f (n + 1) := by
  subst hv; rw [Int.toNat_natCast]; exact bl_set f n h
theorem Of_bl (f : Nat → Nat) (N n : Nat) (hN : N < 4294967296) (hf : ∀ i, i < 32 → (if i < n then f i else 0) = N / 2 ^ i % 2) (k : Nat) (hk : 32 < k) :
    whetstoneref01_Of.f k (bl f n) = some ((N : Nat) : Int) :=
  Of_eq _ N hN (bl_length _ _) (fun i hi => by rw [bl_get _ _ _ hi]; rw [← hf i hi]; by_cases h : i < n <;> simp [h]) k hk
theorem Bit_eq (w : Nat) (hw : w < 4294967296) (i : Int) : whetstoneref01_Bit.f (w : Int) i = some ((if 0 ≤ i ∧ i ≤ 31 then w / 2 ^ i.toNat % 2 else 0 : Nat) : Int) := by
  unfold whetstoneref01_Bit.f
  by_cases h1 : i < 0
  · rw [if_pos h1, if_neg (by omega)]; rfl
  · rw [if_neg h1]
    by_cases h2 : i > 31
    · rw [if_pos h2, if_neg (by omega)]; rfl
    · rw [if_neg h2, if_pos (by omega), if_pos (by omega)]
      obtain ⟨j, rfl⟩ := Int.eq_ofNat_of_zero_le (a := i) (by omega)
      have e : shr .u32 (w : Int) (j : Int) = ((w / 2 ^ j : Nat) : Int) := by
        unfold shr
        rw [Int.toNat_natCast, show IntKind.u32.bits = 32 from rfl, Nat.min_eq_left (by omega)]
        simp
      have hle : w / 2 ^ j ≤ w := Nat.div_le_self _ _
      rw [e]
      rw [show (1 : Int) = ((1 : Nat) : Int) from rfl, u32_and_nat _ _ (by omega) (by omega), nat_mask1, Int.toNat_natCast]
/-! ## fields -/
/-- May a field be. -/
def May (p n : Int) : Prop := 0 ≤ p ∧ p < 32 ∧ 1 ≤ n ∧ n ≤ 32 - p
instance (p n : Int) : Decidable (May p n) := by unfold May; infer_instance
theorem may_eq (p n : Int) : word_may.f p n = some (decide (May p n)) := by
  unfold word_may.f wrap64
  by_cases h : May p n
  · rw [decide_eq_true h]
    unfold May at h
    rw [if_pos (by omega), if_pos (by omega), if_pos (by omega), decide_eq_true (by omega)]
  · rw [decide_eq_false h]
    unfold May at h
    repeat' split
    · rw [decide_eq_false (by omega)]
    all_goals rfl
theorem rmay_eq (p n : Int) : whetstoneref01_may.f p n = some (decide (May p n)) := by
  unfold whetstoneref01_may.f wrap64
  by_cases h : May p n
  · rw [decide_eq_true h]
    unfold May at h
    rw [if_pos (by omega), if_pos (by omega), if_pos (by omega), if_pos (by omega), decide_eq_true (by omega)]
  · rw [decide_eq_false h]
    unfold May at h
    repeat' split
    · rw [decide_eq_false (by omega)]
    all_goals rfl
theorem may_nat {p n : Nat} (hp : p < 32) (h1 : 1 ≤ n) (hn : n ≤ 32 - p) : May (p : Int) (n : Int) := by unfold May; omega
theorem two_pow_le (j n : Nat) (h : j ≤ n) : 2 ^ j ≤ 2 ^ n := Nat.pow_le_pow_right (by omega) h
theorem or_one (x : Nat) (h : x % 2 = 0) : x ||| 1 = x + 1 := nat_join 1 x 1 h (by omega)
theorem mask_loop (n : Nat) (hn : n ≤ 32) (d : Nat) : ∀ k j : Nat, j + d = n → d < k →
    word_mask.l0 k ((2 ^ j - 1 : Nat) : Int) (n : Int) (j : Int) = some ((2 ^ n - 1 : Nat) : Int) := by
  induction d with
  | zero =>
    intro k j hj hk
    obtain ⟨k, rfl⟩ : ∃ m, k = m + 1 := ⟨k - 1, by omega⟩
    obtain rfl : j = n := by omega
    simp only [word_mask.l0]; rw [if_neg (by omega)]
  | succ d ih =>
    intro k j hj hk
    obtain ⟨k, rfl⟩ : ∃ m, k = m + 1 := ⟨k - 1, by omega⟩
    simp only [word_mask.l0]; rw [if_pos (by omega)]
    have h1 := two_pow_le j 31 (by omega)
    have h0 : 0 < 2 ^ j := Nat.pow_pos (by omega)
    have hs : 2 ^ (j + 1) = 2 * 2 ^ j := by rw [Nat.pow_succ, Nat.mul_comm]
    generalize 2 ^ j = p at h1 h0 hs ⊢
    have e1 : (((p - 1 : Nat) : Int) * 2) % 4294967296 = ((2 * p - 2 : Nat) : Int) := by omega
    rw [e1, show (1 : Int) = ((1 : Nat) : Int) from rfl, u32_or_nat _ _ (by omega) (by omega), or_one _ (by omega)]
    have e2 : wrap64 ((j : Int) + ((1 : Nat) : Int)) = ((j + 1 : Nat) : Int) := by unfold wrap64; omega
    rw [e2, show 2 * p - 2 + 1 = 2 ^ (j + 1) - 1 by omega]
    exact ih k (j + 1) (by omega) (by omega)
theorem mask_eq (n : Nat) (hn : n ≤ 32) (k : Nat) (hk : n < k) : word_mask.f k (n : Int) = some ((2 ^ n - 1 : Nat) : Int) := by
  have h := mask_loop n hn n k 0 (by omega) hk
  exact h
theorem shr_nat (w s : Nat) (hs : s ≤ 32) : shr .u32 (w : Int) (s : Int) = ((w / 2 ^ s : Nat) : Int) := by
  unfold shr
  rw [Int.toNat_natCast, show IntKind.u32.bits = 32 from rfl, Nat.min_eq_left (by omega)]
  simp
theorem shl_nat (w s : Nat) (hs : s ≤ 32) : shl .u32 (w : Int) (s : Int) = ((w * 2 ^ s % 4294967296 : Nat) : Int) := by
  unfold shl
  rw [Int.toNat_natCast, show IntKind.u32.bits = 32 from rfl, Nat.min_eq_left (by omega), IntKind.wrap_u32']
  simp
theorem mod_lt32 (x n : Nat) (hn : n ≤ 32) : x % 2 ^ n < 4294967296 :=
  Nat.lt_of_lt_of_le (Nat.mod_lt _ (Nat.pow_pos (by omega))) (two_pow_le n 32 hn)
theorem Field_may (w p n : Nat) (hw : w < 4294967296) (hp : p < 32) (h1 : 1 ≤ n) (hn : n ≤ 32 - p) (k : Nat) (hk : 32 < k) :
    word_Field.f k (w : Int) (p : Int) (n : Int) = some ((w / 2 ^ p % 2 ^ n : Nat) : Int) := by
  unfold word_Field.f
  rw [may_eq, decide_eq_true (may_nat hp h1 hn)]
  simp only [obs, if_true]
  rw [if_pos (by omega), mask_eq n (by omega) k (by omega)]
  simp only [obs]
  have h2 := two_pow_le n 32 (by omega)
  have h3 : w / 2 ^ p ≤ w := Nat.div_le_self _ _
  have h4 : 0 < 2 ^ n := Nat.pow_pos (by omega)
  rw [shr_nat w p (by omega), u32_and_nat _ _ (by omega) (by omega), Nat.and_two_pow_sub_one_eq_mod]
theorem Field_not (w p n : Int) (h : ¬ May p n) (k : Nat) : word_Field.f k w p n = some 0 := by
  unfold word_Field.f
  rw [may_eq, decide_eq_false h]
  rfl
theorem rField_loop (w p n : Nat) (hw : w < 4294967296) (hp : p < 32) (h1 : 1 ≤ n) (hn : n ≤ 32 - p) (d : Nat) : ∀ k j : Nat, j + d = n → d + 33 < k →
    whetstoneref01_Field.l0 k (w : Int) (p : Int) (n : Int) (bl (fun i => w / 2 ^ (p + i) % 2) j) (j : Int) = some ((w / 2 ^ p % 2 ^ n : Nat) : Int) := by
  induction d with
  | zero =>
    intro k j hj hk
    obtain ⟨k, rfl⟩ : ∃ m, k = m + 1 := ⟨k - 1, by omega⟩
    obtain rfl : j = n := by omega
    simp only [whetstoneref01_Field.l0]; rw [if_neg (by omega)]
    rw [Of_bl _ (w / 2 ^ p % 2 ^ j) _ (mod_lt32 _ _ (by omega)) ?_ k (by omega)]
    · simp only [obs]
    intro i hi
    rw [bit_mod, bit_shr, Nat.add_comm i p]
  | succ d ih =>
    intro k j hj hk
    obtain ⟨k, rfl⟩ : ∃ m, k = m + 1 := ⟨k - 1, by omega⟩
    simp only [whetstoneref01_Field.l0]; rw [if_pos (by omega), rmay_eq, decide_eq_true (may_nat hp h1 hn)]
    simp only [obs, if_true]
    have e1 : wrap64 ((p : Int) + (j : Int)) = ((p + j : Nat) : Int) := by unfold wrap64; omega
    have e3 : whetstoneref01_Bit.f (w : Int) ((p + j : Nat) : Int) = some ((w / 2 ^ (p + j) % 2 : Nat) : Int) := by
      rw [Bit_eq w hw, if_pos (by omega), Int.toNat_natCast]
    rw [e1, e3]
    simp only [obs]
    rw [if_pos (by omega), if_pos (by rw [bl_length]; omega), bl_set' (fun i => w / 2 ^ (p + i) % 2) j (by omega) _ rfl]
    have e2 : wrap64 ((j : Int) + 1) = ((j + 1 : Nat) : Int) := by unfold wrap64; omega
    rw [e2]
    exact ih k (j + 1) (by omega) (by omega)
theorem rField_eq (w p n : Nat) (hw : w < 4294967296) (hp : p < 32) (h1 : 1 ≤ n) (hn : n ≤ 32 - p) (k : Nat) (hk : 80 < k) :
    whetstoneref01_Field.f k (w : Int) (p : Int) (n : Int) = some ((w / 2 ^ p % 2 ^ n : Nat) : Int) := by
  unfold whetstoneref01_Field.f
  rw [if_pos (by omega), bl_zero (fun i => w / 2 ^ (p + i) % 2)]
  exact rField_loop w p n hw hp h1 hn n k 0 (by omega) (by omega)
theorem Of_none (k : Nat) (hk : 32 < k) : whetstoneref01_Of.f k (List.replicate 32 0) = some 0 := by
  rw [bl_zero (fun _ => 0)]
  exact Of_bl _ 0 0 (by omega) (fun i _ => by simp) k hk
theorem rField_not (w p n : Int) (h : ¬ May p n) (k : Nat) (hk : 40 < k) : whetstoneref01_Field.f k w p n = some 0 := by
  unfold whetstoneref01_Field.f
  rw [if_pos (by omega)]
  obtain ⟨k, rfl⟩ : ∃ m, k = m + 1 := ⟨k - 1, by omega⟩
  simp only [whetstoneref01_Field.l0]
  rw [rmay_eq, decide_eq_false h]
  have e := Of_none k (by omega)
  simp only [obs, Bool.false_eq_true, if_false, e]
  split <;> rfl
/-- The field, wherever it may be. -/
def fld (w : Nat) (p n : Int) : Nat := if May p n then w / 2 ^ p.toNat % 2 ^ n.toNat else 0
theorem Field_eq (w : Nat) (hw : w < 4294967296) (p n : Int) (k : Nat) (hk : 80 < k) : word_Field.f k (w : Int) p n = some ((fld w p n : Nat) : Int) := by
  unfold fld
  by_cases h : May p n
  · rw [if_pos h]
    obtain ⟨a, b, c, d⟩ := h
    obtain ⟨p, rfl⟩ := Int.eq_ofNat_of_zero_le a
    obtain ⟨n, rfl⟩ := Int.eq_ofNat_of_zero_le (a := n) (by omega)
    exact Field_may w p n hw (by omega) (by omega) (by omega) k (by omega)
  · rw [if_neg h]; exact Field_not _ _ _ h k
theorem rField_all (w : Nat) (hw : w < 4294967296) (p n : Int) (k : Nat) (hk : 80 < k) : whetstoneref01_Field.f k (w : Int) p n = some ((fld w p n : Nat) : Int) := by
  unfold fld
  by_cases h : May p n
  · rw [if_pos h]
    obtain ⟨a, b, c, d⟩ := h
    obtain ⟨p, rfl⟩ := Int.eq_ofNat_of_zero_le a
    obtain ⟨n, rfl⟩ := Int.eq_ofNat_of_zero_le (a := n) (by omega)
    exact rField_eq w p n hw (by omega) (by omega) (by omega) k (by omega)
  · rw [if_neg h]; exact rField_not _ _ _ h k (by omega)
/-! ## Sign, Put -/
theorem mod_div_bit (w n i : Nat) (h : i < n) : w % 2 ^ n / 2 ^ i % 2 = w / 2 ^ i % 2 := by rw [bit_mod, if_pos h]
theorem high_bit (w n : Nat) (h : 1 ≤ n) : w % 2 ^ n / 2 ^ (n - 1) = w / 2 ^ (n - 1) % 2 := by
  have e : 2 ^ n = 2 ^ (n - 1) * 2 := by rw [← Nat.pow_succ]; congr 1; omega
  have := Nat.mod_mul_right_div_self w (2 ^ (n - 1)) 2
  rw [← e] at this
  exact this
/-- A word's sign. -/
def sgn (w : Nat) (n : Int) : Nat :=
  if 1 ≤ n ∧ n ≤ 31 then (if w / 2 ^ (n.toNat - 1) % 2 = 1 then w % 2 ^ n.toNat + (4294967296 - 2 ^ n.toNat) else w % 2 ^ n.toNat) else w
theorem sgn_lt (w : Nat) (hw : w < 4294967296) (n : Int) : sgn w n < 4294967296 := by
  unfold sgn
  split
  · rename_i h
    have h1 := two_pow_le n.toNat 31 (by omega)
    have h2 : w % 2 ^ n.toNat < 2 ^ n.toNat := Nat.mod_lt _ (Nat.pow_pos (by omega))
    generalize 2 ^ n.toNat = p at *
    split <;> omega
  · exact hw
theorem ones_sub (n i : Nat) (hn : n ≤ 32) : (4294967296 - 2 ^ n) / 2 ^ i % 2 = if n ≤ i ∧ i < 32 then 1 else 0 := by
  have e : 4294967296 - 2 ^ n = (2 ^ (32 - n) - 1) * 2 ^ n := by
    rw [Nat.sub_mul, ← Nat.pow_add, Nat.one_mul]; congr 1; rw [show 32 - n + n = 32 by omega]
  rw [e, bit_shl]
  by_cases h : i < n
  · rw [if_pos h, if_neg (by omega)]
  · rw [if_neg h, bit_of, Nat.testBit_two_pow_sub_one]
    by_cases h2 : i < 32
    · rw [if_pos (by omega), decide_eq_true (by omega)]; rfl
    · rw [if_neg (by omega), decide_eq_false (by omega)]; rfl
theorem add_or (x y n : Nat) (hx : x < 2 ^ n) (hy : y % 2 ^ n = 0) : x + y = y ||| x := by
  rw [nat_join n y x hy hx, Nat.add_comm]
theorem sgn_bit (w : Nat) (n : Int) (h1 : 1 ≤ n) (h2 : n ≤ 31) (i : Nat) (hi : i < 32) : sgn w n / 2 ^ i % 2 = if i < n.toNat then w / 2 ^ i % 2 else w / 2 ^ (n.toNat - 1) % 2 := by
  unfold sgn
  rw [if_pos ⟨h1, h2⟩]
  obtain ⟨m, rfl⟩ := Int.eq_ofNat_of_zero_le (a := n) (by omega)
  rw [Int.toNat_natCast]
  have hm : w % 2 ^ m < 2 ^ m := Nat.mod_lt _ (Nat.pow_pos (by omega))
  split
  · rename_i h3
    have e : 4294967296 - 2 ^ m = (2 ^ (32 - m) - 1) * 2 ^ m := by
      rw [Nat.sub_mul, ← Nat.pow_add, Nat.one_mul]; congr 1; rw [show 32 - m + m = 32 by omega]
    rw [add_or _ _ m hm (by rw [e]; exact Nat.mul_mod_left _ _), bit_or, ones_sub m i (by omega), bit_mod]
    by_cases h4 : i < m
    · rw [if_neg (by omega), if_pos h4, if_pos h4]; omega
    · rw [if_pos (by omega), if_neg h4, if_neg h4]; omega
  · rename_i h3
    rw [bit_mod]
    split
    · rfl
    · have := bit_lt w (m - 1); omega
theorem not_nat (x : Nat) (hx : x < 4294967296) : Go.bits .xor .u32 4294967295 (x : Int) = ((4294967295 - x : Nat) : Int) := by
  rw [show (4294967295 : Int) = ((4294967295 : Nat) : Int) from rfl, u32_xor_nat _ _ (by omega) hx]
  congr 1
  apply nat_of_bits
  intro i
  rw [bit_xor]
  by_cases h : i < 32
  · have e1 : 4294967295 / 2 ^ i % 2 = 1 := by
      have := Nat.testBit_two_pow_sub_one 32 i
      rw [decide_eq_true h] at this
      rw [bit_of]; exact congrArg Bool.toNat this
    have e2 : (4294967295 - x) / 2 ^ i % 2 = 1 - x / 2 ^ i % 2 := by
      have := Nat.testBit_two_pow_sub_succ (x := x) (n := 32) hx i
      rw [decide_eq_true h, Bool.true_and] at this
      rw [bit_of, bit_of, show 4294967295 - x = 2 ^ 32 - (x + 1) by omega, this]
      cases x.testBit i <;> rfl
    rw [e1, e2]
    have := bit_lt x i
    omega
  · rw [bit_big _ _ 32 (by omega) (by omega), bit_big x _ 32 hx (by omega), bit_big _ _ 32 (by omega) (by omega)]
/-- A word with bits put in. -/
def put (w : Nat) (p n : Int) (v : Nat) : Nat := if May p n then (w &&& (4294967295 - (2 ^ n.toNat - 1) * 2 ^ p.toNat)) ||| (v % 2 ^ n.toNat) * 2 ^ p.toNat else w
theorem field_fits (p n : Nat) (hn : n + p ≤ 32) (x : Nat) (hx : x < 2 ^ n) : x * 2 ^ p < 4294967296 := by
  have h1 : x * 2 ^ p < 2 ^ n * 2 ^ p := Nat.mul_lt_mul_of_pos_right hx (Nat.pow_pos (by omega))
  rw [← Nat.pow_add] at h1
  exact Nat.lt_of_lt_of_le h1 (two_pow_le (n + p) 32 hn)
theorem put_lt (w v : Nat) (hw : w < 4294967296) (p n : Int) : put w p n v < 4294967296 := by
  unfold put
  split
  · rename_i h
    obtain ⟨a, b, c, d⟩ := h
    obtain ⟨p, rfl⟩ := Int.eq_ofNat_of_zero_le a
    obtain ⟨n, rfl⟩ := Int.eq_ofNat_of_zero_le (a := n) (by omega)
    rw [Int.toNat_natCast, Int.toNat_natCast]
    have f2 := field_fits p n (by omega) (v % 2 ^ n) (Nat.mod_lt _ (Nat.pow_pos (by omega)))
    have f1 := Nat.and_le_left (n := w) (m := 4294967295 - (2 ^ n - 1) * 2 ^ p)
    exact Nat.or_lt_two_pow (n := 32) (by omega) (by omega)
  · exact hw
theorem put_bit (w v : Nat) (hw : w < 4294967296) (p n : Int) (h : May p n) (i : Nat) (hi : i < 32) :
    put w p n v / 2 ^ i % 2 = if p.toNat ≤ i ∧ i < p.toNat + n.toNat then v / 2 ^ (i - p.toNat) % 2 else w / 2 ^ i % 2 := by
  unfold put
  rw [if_pos h]
  obtain ⟨a, b, c, d⟩ := h
  obtain ⟨p, rfl⟩ := Int.eq_ofNat_of_zero_le a
  obtain ⟨n, rfl⟩ := Int.eq_ofNat_of_zero_le (a := n) (by omega)
  rw [Int.toNat_natCast, Int.toNat_natCast]
  have f1 := field_fits p n (by omega) (2 ^ n - 1) (by have : 0 < 2 ^ n := Nat.pow_pos (by omega); omega)
  have e2 : (4294967295 - (2 ^ n - 1) * 2 ^ p) / 2 ^ i % 2 = 1 - ((2 ^ n - 1) * 2 ^ p) / 2 ^ i % 2 := by
    have := Nat.testBit_two_pow_sub_succ (x := (2 ^ n - 1) * 2 ^ p) (n := 32) f1 i
    rw [decide_eq_true hi, Bool.true_and] at this
    rw [bit_of, bit_of, show 4294967295 - (2 ^ n - 1) * 2 ^ p = 2 ^ 32 - ((2 ^ n - 1) * 2 ^ p + 1) by omega, this]
    cases ((2 ^ n - 1) * 2 ^ p).testBit i <;> rfl
  rw [bit_or, bit_and, e2, bit_shl, bit_shl, bit_mod]
  have e3 : (2 ^ n - 1) / 2 ^ (i - p) % 2 = if i - p < n then 1 else 0 := by
    rw [bit_of, Nat.testBit_two_pow_sub_one]
    by_cases h : i - p < n <;> simp [h]
  rw [e3]
  have := bit_lt w i
  have := bit_lt v (i - p)
  by_cases h1 : i < p
  · simp only [h1, if_true]; rw [if_neg (by omega)]; omega
  · simp only [h1, if_false]
    by_cases h2 : i - p < n
    · simp only [h2, if_true]; rw [if_pos (by omega)]; omega
    · simp only [h2, if_false]; rw [if_neg (by omega)]; omega
/-! ## Do -/
theorem u64_id (x : Int) (h0 : 0 ≤ x) (h1 : x < 18446744073709551616) : IntKind.u64.wrap x = x := by rw [IntKind.wrap_u64]; omega
theorem w64_id (x : Int) (h0 : -9223372036854775808 ≤ x) (h1 : x < 9223372036854775808) : wrap64 x = x := by unfold wrap64; omega
theorem w64_mod (x : Int) : wrap64 x % 4294967296 = x % 4294967296 := by unfold wrap64; omega
theorem w32_mod (x : Int) : wrap32 x % 4294967296 = x % 4294967296 := by unfold wrap32; omega
theorem Bit_nat (a : Nat) (ha : a < 4294967296) (j : Nat) (hj : j < 32) : whetstoneref01_Bit.f (a : Int) (j : Int) = some ((a / 2 ^ j % 2 : Nat) : Int) := by
  rw [Bit_eq a ha, if_pos (by omega), Int.toNat_natCast]
theorem and31 (b : Nat) (hb : b < 4294967296) : Go.bits .and .u32 (b : Int) 31 = ((b % 32 : Nat) : Int) := by
  rw [show (31 : Int) = ((31 : Nat) : Int) from rfl, u32_and_nat _ _ hb (by omega), nat_mask5]
theorem by_eq (b : Nat) (hb : b < 4294967296) : wrap64 (Int.tmod (b : Int) 32) = ((b % 32 : Nat) : Int) := by
  rw [show Int.tmod (b : Int) 32 = ((b % 32 : Nat) : Int) from rfl, w64_id _ (by omega) (by omega)]
/-- A shift to the right with the sign. -/
def sra (a s : Nat) : Nat := if a < 2147483648 then a / 2 ^ s else a / 2 ^ s + (4294967296 - 2 ^ (32 - s))
theorem sra_eq (a s : Nat) (ha : a < 4294967296) (hs : s < 32) : (shr .i32 (wrap32 (a : Int)) (s : Int)) % 4294967296 = ((sra a s : Nat) : Int) := by
  unfold shr sra
  rw [Int.toNat_natCast, show IntKind.i32.bits = 32 from rfl, Nat.min_eq_left (by omega)]
  have h0 : 0 < 2 ^ s := Nat.pow_pos (by omega)
  have e1 : 2 ^ (32 - s) * 2 ^ s = 4294967296 := by rw [← Nat.pow_add, show 32 - s + s = 32 by omega]
  have h2 : a / 2 ^ s ≤ a := Nat.div_le_self _ _
  have hq : (2 : Int) ^ s = ((2 ^ s : Nat) : Int) := (Int.natCast_pow 2 s).symm
  rw [hq]
  split
  · rename_i h
    rw [show wrap32 (a : Int) = (a : Int) by unfold wrap32; omega, ← Int.natCast_ediv]
    generalize a / 2 ^ s = t at *
    omega
  · rename_i h
    have h4 : a / 2 ^ s < 2 ^ (32 - s) := by
      apply Nat.div_lt_of_lt_mul; rw [Nat.mul_comm, e1]; exact ha
    have h6 : 2 ≤ 2 ^ (32 - s) := two_pow_le 1 (32 - s) (by omega)
    have h7 : 2 ^ (32 - s) ≤ 4294967296 := two_pow_le (32 - s) 32 (by omega)
    generalize 2 ^ (32 - s) = q at *
    have e5 : wrap32 (a : Int) = (a : Int) + (-(q : Int)) * ((2 ^ s : Nat) : Int) := by
      rw [Int.neg_mul, ← Int.natCast_mul, e1]
      unfold wrap32; omega
    rw [e5, Int.add_mul_ediv_right _ _ (by omega), ← Int.natCast_ediv]
    generalize a / 2 ^ s = t at *
    clear e5 e1 hq
    omega
theorem sra_bit (a s : Nat) (ha : a < 4294967296) (hs : s < 32) (i : Nat) (hi : i < 32) :
    sra a s / 2 ^ i % 2 = if i + s > 31 then a / 2 ^ 31 % 2 else a / 2 ^ (i + s) % 2 := by
  unfold sra
  have h31 : a / 2 ^ 31 % 2 = if a < 2147483648 then 0 else 1 := by split <;> omega
  split
  · rename_i h
    rw [bit_shr, h31, if_pos h]
    split
    · rw [bit_big a _ 31 (by omega) (by omega)]
    · rfl
  · rename_i h
    have e1 : 2 ^ (32 - s) * 2 ^ s = 4294967296 := by rw [← Nat.pow_add, show 32 - s + s = 32 by omega]
    have h4 : a / 2 ^ s < 2 ^ (32 - s) := by
      apply Nat.div_lt_of_lt_mul; rw [Nat.mul_comm, e1]; exact ha
    have e : 4294967296 - 2 ^ (32 - s) = (2 ^ (32 - (32 - s)) - 1) * 2 ^ (32 - s) := by
      rw [Nat.sub_mul, ← Nat.pow_add, Nat.one_mul]; congr 1; rw [show 32 - (32 - s) + (32 - s) = 32 by omega]
    rw [add_or _ _ _ h4 (by rw [e]; exact Nat.mul_mod_left _ _), bit_or, ones_sub _ _ (by omega), bit_shr, h31, if_neg h]
    by_cases h5 : i + s > 31
    · rw [if_pos h5, if_pos (by omega), bit_big a (i + s) 32 (by omega) (by omega)]
    · rw [if_neg h5, if_neg (by omega)]
      have := bit_lt a (i + s)
      omega
theorem sra_lt (a s : Nat) (ha : a < 4294967296) (hs : s < 32) : sra a s < 4294967296 := by
  have := sra_eq a s ha hs
  omega
theorem cut_mul (x y z w : Nat) : (65536 * x + y) * (65536 * z + w) = 4294967296 * (x * z) + 65536 * (x * w) + 65536 * (y * z) + y * w := by grind
theorem mul_bound (x y m n : Nat) (hx : x < m) (hy : y < n) : x * y ≤ (m - 1) * (n - 1) := Nat.mul_le_mul (by omega) (by omega)
theorem tdiv_nat (a b : Nat) : Int.tdiv (a : Int) (b : Int) = ((a / b : Nat) : Int) := rfl
theorem tmod_nat (a b : Nat) : Int.tmod (a : Int) (b : Int) = ((a % b : Nat) : Int) := rfl
/-! ## division -/
theorem wrap32_ne (b : Nat) (hb : b < 4294967296) (h : b ≠ 0) : wrap32 (b : Int) ≠ 0 := by unfold wrap32; omega
theorem wrap32_bd (b : Nat) : -2147483648 ≤ wrap32 (b : Int) ∧ wrap32 (b : Int) ≤ 2147483647 := by unfold wrap32; omega
theorem tdiv_bd (x y : Int) (hx : -2147483648 ≤ x ∧ x ≤ 2147483648) : -2147483648 ≤ Int.tdiv x y ∧ Int.tdiv x y ≤ 2147483648 := by
  have h := Int.natAbs_tdiv_le_natAbs x y
  omega
theorem rem_word (x y : Int) (hx : -2147483648 ≤ x ∧ x ≤ 4294967296) (hy : -2147483648 ≤ y ∧ y ≤ 4294967296) (hq : -4294967296 ≤ Int.tdiv x y ∧ Int.tdiv x y ≤ 4294967296) :
    wrap64 (x - wrap64 (wrap64 (Int.tdiv x y) * y)) % 4294967296 = Int.tmod x y % 4294967296 := by
  rw [w64_id (Int.tdiv x y) (by omega) (by omega), w64_mod]
  have e : Int.tmod x y = x - Int.tdiv x y * y := by
    have := Int.tmod_add_mul_tdiv x y
    rw [Int.mul_comm] at this
    omega
  rw [e]
  generalize Int.tdiv x y * y = t
  unfold wrap64
  omega
/-! ## the whole reckoning -/
/-! ## for the laws -/
theorem of_u32 {x : Int} (h : (Lit.int .u32 x).wf = true) : ∃ n : Nat, x = (n : Int) ∧ n < 4294967296 := by
  simp [Lit.wf, IntKind.min, IntKind.max, IntKind.signed, IntKind.bits] at h
  exact ⟨x.toNat, by omega, by omega⟩
theorem of_i64 {x : Int} (h : (Lit.int .i64 x).wf = true) : -9223372036854775808 ≤ x ∧ x ≤ 9223372036854775807 := by
  simp [Lit.wf, IntKind.min, IntKind.max, IntKind.signed, IntKind.bits] at h
  exact ⟨by omega, by omega⟩
theorem and_i64 (x : Int) (h : -9223372036854775808 ≤ x ∧ x ≤ 9223372036854775807) (n : Nat) (hn : n ≤ 32) : Go.bits .and .i64 x ((2 ^ n - 1 : Nat) : Int) = x % ((2 ^ n : Nat) : Int) := by
  have h1 := two_pow_le n 32 hn
  have h0 : 0 < 2 ^ n := Nat.pow_pos (by omega)
  have e1 : (BitVec.ofInt 64 x).toNat = (x % 18446744073709551616).toNat := by rw [BitVec.toNat_ofInt]; rfl
  have e2 : (BitVec.ofInt 64 ((2 ^ n - 1 : Nat) : Int)).toNat = 2 ^ n - 1 := by
    rw [BitVec.ofInt_natCast, BitVec.toNat_ofNat]; exact Nat.mod_eq_of_lt (by omega)
  show IntKind.i64.wrap ((BitVec.ofInt 64 x &&& BitVec.ofInt 64 ((2 ^ n - 1 : Nat) : Int)).toNat : Int) = _
  rw [BitVec.toNat_and, e1, e2, Nat.and_two_pow_sub_one_eq_mod, Int.natCast_emod, Int.toNat_of_nonneg (by omega)]
  have e3 : x % 18446744073709551616 % ((2 ^ n : Nat) : Int) = x % ((2 ^ n : Nat) : Int) := by
    apply Int.emod_emod_of_dvd
    refine ⟨((2 ^ (64 - n) : Nat) : Int), ?_⟩
    rw [← Int.natCast_mul, ← Nat.pow_add, show n + (64 - n) = 64 by omega]
    rfl
  rw [e3, IntKind.wrap_i64]
  have h2 := Int.emod_nonneg x (b := ((2 ^ n : Nat) : Int)) (by omega)
  have h3 := Int.emod_lt_of_pos x (b := ((2 ^ n : Nat) : Int)) (by omega)
  generalize x % ((2 ^ n : Nat) : Int) = r at *
  omega
theorem ext32 {x y : Nat} (hx : x < 4294967296) (hy : y < 4294967296) (h : ∀ i, i < 32 → x / 2 ^ i % 2 = y / 2 ^ i % 2) : x = y := by
  apply nat_of_bits
  intro i
  by_cases hi : i < 32
  · exact h i hi
  · rw [bit_big x i 32 hx (by omega), bit_big y i 32 hy (by omega)]
theorem Sign_eq (w : Nat) (hw : w < 4294967296) (n : Int) (k : Nat) (hk : 80 < k) : word_Sign.f k (w : Int) n = some ((sgn w n : Nat) : Int) := by
  obtain ⟨k, rfl⟩ : ∃ m, k = m + 1 := ⟨k - 1, by omega⟩
  unfold word_Sign.f
  by_cases h : 1 ≤ n ∧ n ≤ 31
  · rw [if_neg (by omega), decide_eq_false (by omega)]
    simp only [word_Sign.j0]
    unfold sgn
    rw [if_neg (by decide), if_pos h]
    obtain ⟨m, rfl⟩ := Int.eq_ofNat_of_zero_le (a := n) (by omega)
    have hp := two_pow_le m 31 (by omega)
    have h0 : 0 < 2 ^ m := Nat.pow_pos (by omega)
    have hlt : w % 2 ^ m < 2 ^ m := Nat.mod_lt _ h0
    have e1 : wrap64 ((m : Int) - 1) = ((m - 1 : Nat) : Int) := by unfold wrap64; omega
    rw [mask_eq m (by omega) k (by omega), obs, u32_and_nat _ _ hw (by omega), Nat.and_two_pow_sub_one_eq_mod, e1, if_pos (by omega), shr_nat _ _ (by omega), high_bit w m (by omega), Int.toNat_natCast]
    by_cases hb : w / 2 ^ (m - 1) % 2 = 1
    · rw [if_pos (by omega), if_pos hb, obs, not_nat _ (by omega), u32_or_nat _ _ (by omega) (by omega)]
      have e2 : 4294967296 - 2 ^ m = (2 ^ (32 - m) - 1) * 2 ^ m := by
        rw [Nat.sub_mul, ← Nat.pow_add, Nat.one_mul]; congr 1; rw [show 32 - m + m = 32 by omega]
      rw [show 4294967295 - (2 ^ m - 1) = 4294967296 - 2 ^ m by omega, Nat.or_comm, ← add_or _ _ m hlt (by rw [e2]; exact Nat.mul_mod_left _ _)]
    · rw [if_neg (by omega), if_neg hb]
  · unfold sgn
    rw [if_neg h]
    by_cases h3 : n < 1
    · rw [if_pos h3]; simp only [word_Sign.j0, if_true]
    · rw [if_neg h3, decide_eq_true (by omega)]; simp only [word_Sign.j0, if_true]
theorem and_add_or (n : Nat) : ∀ a b : Nat, a < 2 ^ n → b < 2 ^ n → (a &&& b) + (a ||| b) = a + b ∧ (a ^^^ b) + (a &&& b) = (a ||| b) := by
  induction n with
  | zero => intro a b ha hb; obtain rfl : a = 0 := by omega
            obtain rfl : b = 0 := by omega
            exact ⟨rfl, rfl⟩
  | succ n ih =>
    intro a b ha hb
    rw [Nat.pow_succ] at ha hb
    obtain ⟨h1, h2⟩ := ih (a / 2) (b / 2) (by omega) (by omega)
    have d1 : (a &&& b) / 2 = a / 2 &&& b / 2 := Nat.and_div_two
    have d2 : (a ||| b) / 2 = a / 2 ||| b / 2 := Nat.or_div_two
    have d3 : (a ^^^ b) / 2 = a / 2 ^^^ b / 2 := Nat.xor_div_two
    have m1 := bit_and a b 0
    have m2 := bit_or a b 0
    have m3 := bit_xor a b 0
    simp only [Nat.pow_zero, Nat.div_one] at m1 m2 m3
    have h01 : a % 2 = 0 ∨ a % 2 = 1 := by omega
    have h02 : b % 2 = 0 ∨ b % 2 = 1 := by omega
    rcases h01 with h | h <;> rcases h02 with h' | h' <;> rw [h, h'] at m1 m2 m3 <;> constructor <;> omega
theorem put_whole (w v : Nat) (hw : w < 4294967296) (p n : Nat) (hp : p < 32) (h1 : 1 ≤ n) (hn : n ≤ 32 - p) : put w (p : Int) (n : Int) v / 2 ^ p % 2 ^ n = v % 2 ^ n := by
  have hm := may_nat hp h1 hn
  apply nat_of_bits
  intro i
  rw [bit_mod, bit_mod]
  by_cases h : i < n
  · rw [if_pos h, if_pos h, bit_shr, put_bit w v hw _ _ hm (i + p) (by omega), Int.toNat_natCast, Int.toNat_natCast, if_pos (by omega), show i + p - p = i by omega]
  · rw [if_neg h, if_neg h]
theorem put_back (w v : Nat) (hw : w < 4294967296) (p n : Nat) (hp : p < 32) (h1 : 1 ≤ n) (hn : n ≤ 32 - p) :
    put (put w (p : Int) (n : Int) v) (p : Int) (n : Int) (w / 2 ^ p % 2 ^ n) = w := by
  have hm := may_nat hp h1 hn
  have l1 := put_lt w v hw (p : Int) (n : Int)
  apply ext32 (put_lt _ _ l1 _ _) hw
  intro i hi
  rw [put_bit _ _ l1 _ _ hm i hi, Int.toNat_natCast, Int.toNat_natCast]
  by_cases h : p ≤ i ∧ i < p + n
  · rw [if_pos h, bit_mod, if_pos (by omega), bit_shr, show i - p + p = i by omega]
  · rw [if_neg h, put_bit w v hw _ _ hm i hi, Int.toNat_natCast, Int.toNat_natCast, if_neg h]
theorem sgn_mod (v n : Nat) (hn : n < 32) (h1 : 1 ≤ n) : sgn (v % 2 ^ n) (n : Int) = sgn v (n : Int) ∧ sgn v (n : Int) % 2 ^ n = v % 2 ^ n := by
  have hc : (1 : Int) ≤ (n : Int) ∧ (n : Int) ≤ 31 := by omega
  have e0 : (v % 2 ^ n) / 2 ^ (n - 1) % 2 = v / 2 ^ (n - 1) % 2 := by rw [← high_bit v n h1, ← high_bit (v % 2 ^ n) n h1, Nat.mod_mod]
  unfold sgn
  rw [if_pos hc, if_pos hc, Int.toNat_natCast, Nat.mod_mod, e0]
  refine ⟨rfl, ?_⟩
  have e2 : 4294967296 - 2 ^ n = (2 ^ (32 - n) - 1) * 2 ^ n := by
    rw [Nat.sub_mul, ← Nat.pow_add, Nat.one_mul]; congr 1; rw [show 32 - n + n = 32 by omega]
  split
  · rw [e2, Nat.add_mul_mod_self_right, Nat.mod_mod]
  · rw [Nat.mod_mod]
theorem tmod_lt_nat (c m : Nat) (hm : 0 < m) : Int.tmod (c : Int) (m : Int) = ((c % m : Nat) : Int) ∧ c % m < m := ⟨rfl, Nat.mod_lt _ hm⟩
theorem fld0 (x n : Nat) (hx : x < 4294967296) (hn1 : 1 ≤ n) (hn2 : n ≤ 32) (k : Nat) (hk : 80 < k) : word_Field.f k (x : Int) 0 (n : Int) = some ((x % 2 ^ n : Nat) : Int) := by
  have := Field_may x 0 n hx (by omega) hn1 (by omega) k (by omega)
  rw [Nat.pow_zero, Nat.div_one] at this
  exact this
theorem back_n (p c : Nat) (hp : p < 32) : wrap64 (32 - (p : Int)) = ((32 - p : Nat) : Int) ∧ wrap64 (1 + Int.tmod (c : Int) ((32 - p : Nat) : Int)) = ((1 + c % (32 - p) : Nat) : Int) ∧ c % (32 - p) < 32 - p := by
  have hcm : c % (32 - p) < 32 - p := Nat.mod_lt _ (by omega)
  refine ⟨by unfold wrap64; omega, ?_, hcm⟩
  rw [tmod_nat]; generalize c % (32 - p) = x at *; unfold wrap64; omega
theorem i64_nat (x : Int) (h : (Lit.int .i64 x).wf = true) (n : Nat) (hn : n ≤ 32) : ∃ p : Nat, Go.bits .and .i64 x ((2 ^ n - 1 : Nat) : Int) = (p : Int) ∧ p < 2 ^ n := by
  have h0 : 0 < 2 ^ n := Nat.pow_pos (by omega)
  rw [and_i64 x (of_i64 h) n hn]
  have h1 := Int.emod_nonneg x (b := ((2 ^ n : Nat) : Int)) (by omega)
  have h2 := Int.emod_lt_of_pos x (b := ((2 ^ n : Nat) : Int)) (by omega)
  obtain ⟨p, hp⟩ := Int.eq_ofNat_of_zero_le h1
  exact ⟨p, hp, by rw [hp] at h2; omega⟩
theorem emod_mul_w (X : Int) (b : Nat) : (X % 4294967296 * (b : Int)) % 4294967296 = (X * wrap32 (b : Int)) % 4294967296 := by
  rw [Int.mul_emod, Int.emod_emod, ← w32_mod (b : Int), ← Int.mul_emod]
theorem div_key (x y : Int) (a b q r : Nat) (hx : x % 4294967296 = (a : Int)) (hy : y = wrap32 (b : Int)) (hq : Int.tdiv x y % 4294967296 = (q : Int)) (hr : Int.tmod x y % 4294967296 = (r : Int)) :
    (((q * b % 4294967296 + r : Nat) : Int)) % 4294967296 = (a : Int) := by
  have e := Int.tmod_add_mul_tdiv x y
  have h1 : ((q * b % 4294967296 : Nat) : Int) = (Int.tdiv x y * y) % 4294967296 := by
    rw [Int.natCast_emod, Int.natCast_mul, ← hq, show ((4294967296 : Nat) : Int) = 4294967296 from rfl, emod_mul_w, hy]
  rw [Int.natCast_add, h1, ← hr, ← Int.add_emod, Int.add_comm, Int.mul_comm, e, hx]
theorem rem_sign (x y : Int) (a r : Nat) (ha : a < 4294967296) (hx : x = (a : Int) - (if 2147483648 ≤ a then 4294967296 else 0)) (hr : Int.tmod x y % 4294967296 = (r : Int)) (hr0 : r ≠ 0) :
    (r : Int) / 2147483648 = (a : Int) / 2147483648 := by
  have n1 := Int.natAbs_tmod x y
  have n2 : x.natAbs % y.natAbs ≤ x.natAbs := Nat.mod_le _ _
  by_cases hs : 2147483648 ≤ a
  · rw [if_pos hs] at hx
    have sg : Int.tmod x y ≤ 0 := by
      have := Int.tmod_nonneg (a := -x) y (by omega)
      rw [Int.neg_tmod] at this
      omega
    generalize Int.tmod x y = t at *
    generalize x.natAbs % y.natAbs = m at *
    omega
  · rw [if_neg hs] at hx
    have sg := Int.tmod_nonneg (a := x) y (by omega)
    generalize Int.tmod x y = t at *
    generalize x.natAbs % y.natAbs = m at *
    omega
theorem div_uns (a b : Nat) (ha : a < 4294967296) : ((((a / b : Nat) : Int) % 4294967296 * (b : Int)) + ((a % b : Nat) : Int)) % 4294967296 = (a : Int) := by
  have hs : a / b * b + a % b = a := by rw [Nat.mul_comm]; exact Nat.div_add_mod a b
  have hs2 : a / b ≤ a := Nat.div_le_self _ _
  have h1 : ((a / b : Nat) : Int) % 4294967296 = ((a / b : Nat) : Int) := by generalize a / b = x at *; omega
  rw [h1, ← Int.natCast_mul, ← Int.natCast_add, hs]
  omega
theorem sra_not (a s : Nat) (ha : a < 4294967296) (hs : s < 32) : 4294967295 - sra (4294967295 - a) s = sra a s := by
  have l1 := sra_lt (4294967295 - a) s (by omega) hs
  have l2 := sra_lt a s ha hs
  have nb (x i : Nat) (hx : x < 4294967296) (hi : i < 32) : (4294967295 - x) / 2 ^ i % 2 = 1 - x / 2 ^ i % 2 := by
    have := Nat.testBit_two_pow_sub_succ (x := x) (n := 32) hx i
    rw [decide_eq_true hi, Bool.true_and] at this
    rw [bit_of, bit_of, show 4294967295 - x = 2 ^ 32 - (x + 1) by omega, this]
    cases x.testBit i <;> rfl
  apply ext32 (by omega) l2
  intro i hi
  rw [nb _ i l1 hi, sra_bit _ s (by omega) hs i hi, sra_bit a s ha hs i hi]
  split
  · rw [nb a 31 ha (by omega)]; have := bit_lt a 31; omega
  · rw [nb a (i + s) ha (by omega)]; have := bit_lt a (i + s); omega
theorem shl_shr (a k : Nat) (hk : k < 32) : a * 2 ^ k % 4294967296 / 2 ^ k = a % 2 ^ (32 - k) := by
  have e : 4294967296 = 2 ^ k * 2 ^ (32 - k) := by rw [← Nat.pow_add, show k + (32 - k) = 32 by omega]
  rw [e, Nat.mul_comm a, Nat.mul_mod_mul_left, Nat.mul_div_cancel_left _ (Nat.pow_pos (by omega))]
theorem shr_shl (a k : Nat) (ha : a < 4294967296) (hk : k < 32) (h1 : 1 ≤ k) : a / 2 ^ k * 2 ^ k % 4294967296 = put a 0 (k : Int) 0 := by
  have hle : a / 2 ^ k * 2 ^ k ≤ a := Nat.div_mul_le_self _ _
  have hm : May ((0 : Nat) : Int) (k : Int) := may_nat (by omega) h1 (by omega)
  have hm : May (0 : Int) (k : Int) := hm
  rw [Nat.mod_eq_of_lt (by omega)]
  apply ext32 (by omega) (put_lt a 0 ha _ _)
  intro i hi
  rw [put_bit a 0 ha _ _ hm i hi, bit_shl, Int.toNat_natCast, show (0 : Int).toNat = 0 from rfl]
  by_cases h : i < k
  · rw [if_pos h, if_pos (by omega), Nat.zero_div]
  · rw [if_neg h, if_neg (by omega), bit_shr, show i - k + k = i by omega]
theorem whole (t : Nat) (ht : t < 18446744073709551616) : Go.bits .or .u64 (IntKind.u64.wrap ((IntKind.u64.wrap (((t / 4294967296 : Nat) : Int))) * 4294967296)) (IntKind.u64.wrap (((t % 4294967296 : Nat) : Int))) = (t : Int) := by
  have h1 : IntKind.u64.wrap (((t / 4294967296 : Nat) : Int)) = ((t / 4294967296 : Nat) : Int) := u64_id _ (by omega) (by omega)
  have h2 : IntKind.u64.wrap (((t / 4294967296 : Nat) : Int) * 4294967296) = ((t / 4294967296 * 4294967296 : Nat) : Int) := by rw [u64_id _ (by omega) (by omega)]; omega
  have h3 : IntKind.u64.wrap (((t % 4294967296 : Nat) : Int)) = ((t % 4294967296 : Nat) : Int) := u64_id _ (by omega) (by omega)
  rw [h1, h2, h3, u64_or_nat _ _ (by omega) (by omega), nat_join 32 _ _ (Nat.mul_mod_left _ _) (Nat.mod_lt _ (by decide))]
  omega
theorem halves_core (w v n : Nat) (hw : w < 4294967296) (hv : v < 4294967296) (h1 : 1 ≤ n) (h2 : n ≤ 31) :
    put (put v 0 (n : Int) (w % 2 ^ n)) (n : Int) ((32 - n : Nat) : Int) (w / 2 ^ n % 2 ^ (32 - n)) = w := by
  have m1 : May ((0 : Nat) : Int) (n : Int) := may_nat (by omega) h1 (by omega)
  have m1 : May (0 : Int) (n : Int) := m1
  have m2 : May (n : Int) ((32 - n : Nat) : Int) := may_nat (by omega) (by omega) (by omega)
  have l1 := put_lt v (w % 2 ^ n) hv 0 (n : Int)
  apply ext32 (put_lt _ _ l1 _ _) hw
  intro i hi
  rw [put_bit _ _ l1 _ _ m2 i hi, Int.toNat_natCast, Int.toNat_natCast]
  by_cases h : i < n
  · rw [if_neg (by omega), put_bit v _ hv _ _ m1 i hi, Int.toNat_natCast, show (0 : Int).toNat = 0 from rfl, if_pos (by omega), bit_mod, if_pos (by omega), Nat.sub_zero]
  · rw [if_pos (by omega), bit_mod, if_pos (by omega), bit_shr, show i - n + n = i by omega]
theorem fixed_200 : whetstonelaw02_fixed.f 200 = some true := by decide +kernel
theorem fixed_ok (k : Nat) (hk : 200 ≤ k) : whetstonelaw02_fixed.f k = some true := at_rounds (g := fun k => whetstonelaw02_fixed.f k) whetstonelaw02_fixed.mono hk fixed_200
theorem wrap64_lit (n : Int) (h : -9223372036854775808 ≤ n) (h2 : n ≤ 9223372036854775807) : wrap64 n = n := by unfold wrap64; omega
theorem rForm_out (a : Int) (h : ¬ (0 ≤ a ∧ a < 47)) : whetstoneref02_Form.f a = some 0 := by
  unfold whetstoneref02_Form.f
  by_cases h1 : a < 0
  · rw [if_pos h1]
  · rw [if_neg h1]
    show (if a ≥ 47 then _ else _) = _
    rw [if_pos (by omega)]
theorem Form_out (a : Int) (h : ¬ (0 ≤ a ∧ a < 47)) : inst_Form.f a = some 0 := by unfold inst_Form.f; rw [if_neg h]
/-! ## closed forms -/
/-- The form of a kind. -/
def frm (op : Int) : Int := if 0 ≤ op ∧ op < 47 then (kGet op.toNat).1 else 0
theorem Form_eq (op : Int) : inst_Form.f op = some (frm op) := rfl
theorem frm_in : ∀ n : Fin 47, (kGet n.val).1 = 85 ∨ (kGet n.val).1 = 74 ∨ (kGet n.val).1 = 73 ∨ (kGet n.val).1 = 66 ∨ (kGet n.val).1 = 83 ∨ (kGet n.val).1 = 72 ∨ (kGet n.val).1 = 82 ∨ (kGet n.val).1 = 69 := by decide
theorem frm_cases (op : Int) : (¬ (0 ≤ op ∧ op < 47) ∧ frm op = 0) ∨ ((0 ≤ op ∧ op < 47) ∧ (frm op = 85 ∨ frm op = 74 ∨ frm op = 73 ∨ frm op = 66 ∨ frm op = 83 ∨ frm op = 72 ∨ frm op = 82 ∨ frm op = 69)) := by
  by_cases h : 0 ≤ op ∧ op < 47
  · right
    obtain ⟨n, rfl⟩ := Int.eq_ofNat_of_zero_le h.1
    refine ⟨h, ?_⟩
    unfold frm
    rw [if_pos h, Int.toNat_natCast]
    exact frm_in ⟨n, by omega⟩
  · left; refine ⟨h, ?_⟩; unfold frm; rw [if_neg h]
/-- Which registers a form has. -/
def hRd (f : Int) : Bool := decide (f = 85 ∨ f = 74 ∨ f = 73 ∨ f = 72 ∨ f = 82)
def hR1 (f : Int) : Bool := decide (f = 73 ∨ f = 72 ∨ f = 66 ∨ f = 83 ∨ f = 82)
def hR2 (f : Int) : Bool := decide (f = 66 ∨ f = 83 ∨ f = 82)
theorem has_eq (f : Int) (k : Nat) (hk : 4 ≤ k) : inst_has.f k f = some (hRd f, hR1 f, hR2 f) := by
  obtain ⟨k, rfl⟩ : ∃ m, k = m + 4 := ⟨k - 4, by omega⟩
  unfold hRd hR1 hR2 inst_has.f
  by_cases h1 : f = 85
  · subst h1; rfl
  by_cases h2 : f = 74
  · subst h2; rfl
  by_cases h3 : f = 73
  · subst h3; rfl
  by_cases h4 : f = 72
  · subst h4; rfl
  by_cases h5 : f = 66
  · subst h5; rfl
  by_cases h6 : f = 83
  · subst h6; rfl
  by_cases h7 : f = 82
  · subst h7; rfl
  rw [if_neg h1, show (f == 74) = false from beq_eq_false_iff_ne.mpr h2]
  simp only [inst_has.j0, inst_has.j1, inst_has.j2]
  rw [if_neg (by decide), if_neg h3, show (f == 72) = false from beq_eq_false_iff_ne.mpr h4, if_neg (by decide), if_neg h5, show (f == 83) = false from beq_eq_false_iff_ne.mpr h6, if_neg (by decide), if_neg h7]
  simp [h1, h2, h3, h4, h5, h6, h7]
/-- May a number be, of a form. -/
def numb (f m : Int) : Bool :=
  if f = 85 then decide (0 ≤ m ∧ m ≤ 1048575) else if f = 74 then decide (-1048576 ≤ m ∧ m ≤ 1048574 ∧ m % 2 = 0)
  else if f = 73 ∨ f = 83 then decide (-2048 ≤ m ∧ m ≤ 2047) else if f = 66 then decide (-4096 ≤ m ∧ m ≤ 4094 ∧ m % 2 = 0)
  else if f = 72 then decide (0 ≤ m ∧ m ≤ 31) else decide (m = 0)
theorem between_eq (a b c : Int) : inst_between.f a b c = some (decide (b ≤ a ∧ a ≤ c)) := by
  unfold inst_between.f
  by_cases h : a ≥ b
  · rw [if_pos h]; congr 1; rw [decide_eq_decide]; omega
  · rw [if_neg h, decide_eq_false (by omega)]
theorem tmod2 (m : Int) : (Int.tmod m 2 == 0) = decide (m % 2 = 0) := by
  have h : (Int.tmod m 2 = 0) ↔ (m % 2 = 0) := by
    rw [← Int.dvd_iff_tmod_eq_zero, Int.dvd_iff_emod_eq_zero]
  by_cases e : m % 2 = 0
  · rw [decide_eq_true e, beq_iff_eq.mpr (h.mpr e)]
  · rw [decide_eq_false e]; exact beq_eq_false_iff_ne.mpr (fun q => e (h.mp q))
theorem ite_and (p q : Prop) [Decidable p] [Decidable q] : (if decide p = true then some (decide q) else some false) = some (decide (p ∧ q)) := by
  by_cases h : p
  · simp [h]
  · simp [h]
theorem number_eq (f m : Int) (k : Nat) (hk : 1 ≤ k) : inst_number.f k f m = some (numb f m) := by
  obtain ⟨k, rfl⟩ : ∃ m, k = m + 1 := ⟨k - 1, by omega⟩
  unfold numb inst_number.f
  by_cases h1 : f = 85
  · rw [if_pos h1, if_pos h1, between_eq, obs]
  rw [if_neg h1, if_neg h1]
  by_cases h2 : f = 74
  · rw [if_pos h2, if_pos h2, between_eq, obs, tmod2, ite_and]; congr 1; rw [decide_eq_decide]; omega
  rw [if_neg h2, if_neg h2]
  simp only [inst_number.j0, between_eq, obs, tmod2, ite_and]
  by_cases h3 : f = 73
  · subst h3; rfl
  by_cases h4 : f = 83
  · subst h4; rfl
  rw [if_neg h3, show (f == 83) = false from beq_eq_false_iff_ne.mpr h4, if_neg (by decide), if_neg (show ¬ (f = 73 ∨ f = 83) by omega)]
  by_cases h5 : f = 66
  · rw [if_pos h5, if_pos h5]; congr 1; rw [decide_eq_decide]; omega
  rw [if_neg h5, if_neg h5]
  by_cases h6 : f = 72
  · rw [if_pos h6, if_pos h6]
  rw [if_neg h6, if_neg h6]
  rfl
/-- May a register be. -/
def regv (b : Bool) (n : Int) : Bool := decide ((b = true ∧ 0 ≤ n ∧ n ≤ 31) ∨ n = 0)
theorem register_eq (b : Bool) (n : Int) : inst_register.f b n = some (regv b n) := by
  unfold inst_register.f regv
  cases b
  · rw [if_neg (by decide)]; congr 1; by_cases h : n = 0 <;> simp [h]
  · rw [if_pos rfl, between_eq, obs]
    by_cases h : 0 ≤ n ∧ n ≤ 31
    · rw [if_pos (decide_eq_true h), decide_eq_true (Or.inl ⟨rfl, h⟩)]
    · rw [if_neg (by rw [decide_eq_false h]; decide)]; congr 1
      by_cases h0 : n = 0
      · omega
      · rw [show (n == 0) = false from beq_eq_false_iff_ne.mpr h0, decide_eq_false (by omega)]
/-- May an instruction be. -/
def rightv (a0 a1 a2 a3 a4 : Int) : Bool := decide (frm a0 ≠ 0) && (regv (hRd (frm a0)) a1 && (regv (hR1 (frm a0)) a2 && (regv (hR2 (frm a0)) a3 && numb (frm a0) a4)))
theorem Right_eq (a0 a1 a2 a3 a4 : Int) (k : Nat) (hk : 4 ≤ k) : inst_Right.f k a0 a1 a2 a3 a4 = some (rightv a0 a1 a2 a3 a4) := by
  unfold inst_Right.f rightv
  rw [Form_eq, obs, has_eq _ k hk, obs]
  by_cases h : frm a0 = 0
  · rw [if_pos h, decide_eq_false (by simp [h])]; rfl
  rw [if_neg h, decide_eq_true h, register_eq, obs, register_eq, obs, register_eq, obs, number_eq _ _ k (by omega), obs]
  cases regv (hRd (frm a0)) a1 <;> cases regv (hR1 (frm a0)) a2 <;> cases regv (hR2 (frm a0)) a3 <;> rfl
theorem right_zero (a0 : Int) (h : 0 ≤ a0 ∧ a0 < 47) : rightv a0 0 0 0 0 = true := by
  rcases frm_cases a0 with ⟨h1, _⟩ | ⟨_, h2 | h2 | h2 | h2 | h2 | h2 | h2 | h2⟩
  · exact absurd h h1
  all_goals (unfold rightv; rw [h2]; decide)
/-! ## bits that do not meet -/
theorem or_sum {x y : Nat} (m n : Nat) (hx : x &&& m = x) (hy : y &&& n = y) (h : m &&& n = 0) (lx : x < 4294967296) (ly : y < 4294967296) : x ||| y = x + y ∧ (x + y) &&& (m ||| n) = x + y ∧ x + y < 4294967296 := by
  have h0 : x &&& y = 0 := by
    rw [← hx, ← hy, show (x &&& m) &&& (y &&& n) = (x &&& y) &&& (m &&& n) by ac_rfl, h, Nat.and_zero]
  have e := (and_add_or 32 x y lx ly).1
  have e2 : x ||| y = x + y := by omega
  refine ⟨e2, ?_, ?_⟩
  · rw [← e2]
    apply Nat.eq_of_testBit_eq
    intro i
    have hx' := congrArg (·.testBit i) hx
    have hy' := congrArg (·.testBit i) hy
    simp only [Nat.testBit_and, Nat.testBit_or] at hx' hy' ⊢
    revert hx' hy'
    cases x.testBit i <;> cases y.testBit i <;> cases m.testBit i <;> cases n.testBit i <;> simp
  · rw [← e2]; exact Nat.or_lt_two_pow (n := 32) lx ly
theorem piece (a s n : Nat) (h : a < 2 ^ n) : (a * 2 ^ s) &&& ((2 ^ n - 1) * 2 ^ s) = a * 2 ^ s := by
  apply nat_of_bits
  intro i
  rw [bit_and, bit_shl, bit_shl]
  by_cases hi : i < s
  · rw [if_pos hi]; simp
  · rw [if_neg hi, if_neg hi, bit_of (2 ^ n - 1), Nat.testBit_two_pow_sub_one]
    by_cases hn : i - s < n
    · simp [hn]
    · rw [bit_big a (i - s) n h (by omega)]; simp
/-! ## what is told of a number -/
def toldv (f : Int) (m : Nat) : Nat :=
  if f = 85 then m % 1048576 * 4096
  else if f = 74 then m / 1048576 % 2 * 2147483648 + m / 4096 % 256 * 4096 + m / 2048 % 2 * 1048576 + m / 2 % 1024 * 2097152
  else if f = 73 ∨ f = 72 then m % 4096 * 1048576
  else if f = 83 then m / 32 % 128 * 33554432 + m % 32 * 128
  else if f = 66 then m / 4096 % 2 * 2147483648 + m / 2048 % 2 * 128 + m / 32 % 64 * 33554432 + m / 2 % 16 * 256
  else 0
theorem shl_small (a s n : Nat) (h : a < 2 ^ n) (hs : n + s ≤ 32) : shl .u32 (a : Int) (s : Int) = ((a * 2 ^ s : Nat) : Int) := by
  rw [shl_nat a s (by omega), Nat.mod_eq_of_lt]
  calc a * 2 ^ s < 2 ^ n * 2 ^ s := Nat.mul_lt_mul_of_pos_right h (Nat.pow_pos (by omega))
    _ = 2 ^ (n + s) := (Nat.pow_add ..).symm
    _ ≤ 2 ^ 32 := two_pow_le _ _ hs
theorem piece_lt (a s n : Nat) (h : a < 2 ^ n) (hs : n + s ≤ 32) : a * 2 ^ s < 4294967296 := by
  calc a * 2 ^ s < 2 ^ n * 2 ^ s := Nat.mul_lt_mul_of_pos_right h (Nat.pow_pos (by omega))
    _ = 2 ^ (n + s) := (Nat.pow_add ..).symm
    _ ≤ 2 ^ 32 := two_pow_le _ _ hs
theorem told_eq (f : Int) (m : Nat) (hm : m < 4294967296) (k : Nat) (hk : 80 < k) : inst_told.f k f (m : Int) = some ((toldv f m : Nat) : Int) := by
  have F (p n : Nat) (hp : p < 32) (h1 : 1 ≤ n) (hn : n ≤ 32 - p) := Field_may m p n hm hp h1 hn k (by omega)
  unfold inst_told.f toldv
  by_cases h1 : f = 85
  · rw [if_pos h1, if_pos h1]; congr 1; omega
  rw [if_neg h1, if_neg h1]
  by_cases h2 : f = 74
  · rw [if_pos h2, if_pos h2]
    have f1 : word_Field.f k (m : Int) 20 1 = some ((m / 2 ^ 20 % 2 ^ 1 : Nat) : Int) := F 20 1 (by decide) (by decide) (by decide)
    have l1 : m / 2 ^ 20 % 2 ^ 1 < 2 ^ 1 := Nat.mod_lt _ (by decide)
    have f2 : word_Field.f k (m : Int) 12 8 = some ((m / 2 ^ 12 % 2 ^ 8 : Nat) : Int) := F 12 8 (by decide) (by decide) (by decide)
    have l2 : m / 2 ^ 12 % 2 ^ 8 < 2 ^ 8 := Nat.mod_lt _ (by decide)
    have f3 : word_Field.f k (m : Int) 11 1 = some ((m / 2 ^ 11 % 2 ^ 1 : Nat) : Int) := F 11 1 (by decide) (by decide) (by decide)
    have l3 : m / 2 ^ 11 % 2 ^ 1 < 2 ^ 1 := Nat.mod_lt _ (by decide)
    have f4 : word_Field.f k (m : Int) 1 10 = some ((m / 2 ^ 1 % 2 ^ 10 : Nat) : Int) := F 1 10 (by decide) (by decide) (by decide)
    have l4 : m / 2 ^ 1 % 2 ^ 10 < 2 ^ 10 := Nat.mod_lt _ (by decide)
    rw [f1, obs, f2, obs, f3, obs, f4, obs]
    have s1 : shl .u32 ((m / 2 ^ 20 % 2 ^ 1 : Nat) : Int) 31 = _ := shl_small _ 31 1 l1 (by decide)
    have p1 := piece _ 31 1 l1
    have s2 : shl .u32 ((m / 2 ^ 12 % 2 ^ 8 : Nat) : Int) 12 = _ := shl_small _ 12 8 l2 (by decide)
    have p2 := piece _ 12 8 l2
    have s3 : shl .u32 ((m / 2 ^ 11 % 2 ^ 1 : Nat) : Int) 20 = _ := shl_small _ 20 1 l3 (by decide)
    have p3 := piece _ 20 1 l3
    have s4 : shl .u32 ((m / 2 ^ 1 % 2 ^ 10 : Nat) : Int) 21 = _ := shl_small _ 21 10 l4 (by decide)
    have p4 := piece _ 21 10 l4
    rw [s1, s2, s3, s4]
    clear s1 f1 s2 f2 s3 f3 s4 f4 F
    have b1 : m / 2 ^ 20 % 2 ^ 1 * 2 ^ 31 < 4294967296 := piece_lt _ 31 1 l1 (by decide)
    have b2 : m / 2 ^ 12 % 2 ^ 8 * 2 ^ 12 < 4294967296 := piece_lt _ 12 8 l2 (by decide)
    have b3 : m / 2 ^ 11 % 2 ^ 1 * 2 ^ 20 < 4294967296 := piece_lt _ 20 1 l3 (by decide)
    have b4 : m / 2 ^ 1 % 2 ^ 10 * 2 ^ 21 < 4294967296 := piece_lt _ 21 10 l4 (by decide)
    obtain ⟨e2, q2, r2⟩ := or_sum _ _ p1 p2 (by decide +kernel) b1 b2
    obtain ⟨e3, q3, r3⟩ := or_sum _ _ q2 p3 (by decide +kernel) r2 b3
    obtain ⟨e4, q4, r4⟩ := or_sum _ _ q3 p4 (by decide +kernel) r3 b4
    rw [u32_or_nat _ _ b1 b2, e2]
    rw [u32_or_nat _ _ r2 b3, e3]
    rw [u32_or_nat _ _ r3 b4, e4]
  rw [if_neg h2, if_neg h2]
  by_cases h3 : f = 73
  · rw [if_pos h3, if_pos (show f = 73 ∨ f = 72 by omega)]; congr 1; omega
  rw [if_neg h3]
  by_cases h4 : f = 72
  · rw [if_pos h4, if_pos (show f = 73 ∨ f = 72 by omega)]; congr 1; omega
  rw [if_neg h4, if_neg (show ¬ (f = 73 ∨ f = 72) by omega)]
  by_cases h5 : f = 83
  · rw [if_pos h5, if_pos h5]
    have f1 : word_Field.f k (m : Int) 5 7 = some ((m / 2 ^ 5 % 2 ^ 7 : Nat) : Int) := F 5 7 (by decide) (by decide) (by decide)
    have l1 : m / 2 ^ 5 % 2 ^ 7 < 2 ^ 7 := Nat.mod_lt _ (by decide)
    have f2 : word_Field.f k (m : Int) 0 5 = some ((m / 2 ^ 0 % 2 ^ 5 : Nat) : Int) := F 0 5 (by decide) (by decide) (by decide)
    have l2 : m / 2 ^ 0 % 2 ^ 5 < 2 ^ 5 := Nat.mod_lt _ (by decide)
    rw [f1, obs, f2, obs]
    have s1 : shl .u32 ((m / 2 ^ 5 % 2 ^ 7 : Nat) : Int) 25 = _ := shl_small _ 25 7 l1 (by decide)
    have p1 := piece _ 25 7 l1
    have s2 : shl .u32 ((m / 2 ^ 0 % 2 ^ 5 : Nat) : Int) 7 = _ := shl_small _ 7 5 l2 (by decide)
    have p2 := piece _ 7 5 l2
    rw [s1, s2]
    clear s1 f1 s2 f2 F
    have b1 : m / 2 ^ 5 % 2 ^ 7 * 2 ^ 25 < 4294967296 := piece_lt _ 25 7 l1 (by decide)
    have b2 : m / 2 ^ 0 % 2 ^ 5 * 2 ^ 7 < 4294967296 := piece_lt _ 7 5 l2 (by decide)
    obtain ⟨e2, q2, r2⟩ := or_sum _ _ p1 p2 (by decide +kernel) b1 b2
    rw [u32_or_nat _ _ b1 b2, e2]
    rw [Nat.pow_zero, Nat.div_one]
  rw [if_neg h5, if_neg h5]
  by_cases h6 : f = 66
  · rw [if_pos h6, if_pos h6]
    have f1 : word_Field.f k (m : Int) 12 1 = some ((m / 2 ^ 12 % 2 ^ 1 : Nat) : Int) := F 12 1 (by decide) (by decide) (by decide)
    have l1 : m / 2 ^ 12 % 2 ^ 1 < 2 ^ 1 := Nat.mod_lt _ (by decide)
    have f2 : word_Field.f k (m : Int) 11 1 = some ((m / 2 ^ 11 % 2 ^ 1 : Nat) : Int) := F 11 1 (by decide) (by decide) (by decide)
    have l2 : m / 2 ^ 11 % 2 ^ 1 < 2 ^ 1 := Nat.mod_lt _ (by decide)
    have f3 : word_Field.f k (m : Int) 5 6 = some ((m / 2 ^ 5 % 2 ^ 6 : Nat) : Int) := F 5 6 (by decide) (by decide) (by decide)
    have l3 : m / 2 ^ 5 % 2 ^ 6 < 2 ^ 6 := Nat.mod_lt _ (by decide)
    have f4 : word_Field.f k (m : Int) 1 4 = some ((m / 2 ^ 1 % 2 ^ 4 : Nat) : Int) := F 1 4 (by decide) (by decide) (by decide)
    have l4 : m / 2 ^ 1 % 2 ^ 4 < 2 ^ 4 := Nat.mod_lt _ (by decide)
    rw [f1, obs, f2, obs, f3, obs, f4, obs]
    have s1 : shl .u32 ((m / 2 ^ 12 % 2 ^ 1 : Nat) : Int) 31 = _ := shl_small _ 31 1 l1 (by decide)
    have p1 := piece _ 31 1 l1
    have s2 : shl .u32 ((m / 2 ^ 11 % 2 ^ 1 : Nat) : Int) 7 = _ := shl_small _ 7 1 l2 (by decide)
    have p2 := piece _ 7 1 l2
    have s3 : shl .u32 ((m / 2 ^ 5 % 2 ^ 6 : Nat) : Int) 25 = _ := shl_small _ 25 6 l3 (by decide)
    have p3 := piece _ 25 6 l3
    have s4 : shl .u32 ((m / 2 ^ 1 % 2 ^ 4 : Nat) : Int) 8 = _ := shl_small _ 8 4 l4 (by decide)
    have p4 := piece _ 8 4 l4
    rw [s1, s2, s3, s4]
    clear s1 f1 s2 f2 s3 f3 s4 f4 F
    have b1 : m / 2 ^ 12 % 2 ^ 1 * 2 ^ 31 < 4294967296 := piece_lt _ 31 1 l1 (by decide)
    have b2 : m / 2 ^ 11 % 2 ^ 1 * 2 ^ 7 < 4294967296 := piece_lt _ 7 1 l2 (by decide)
    have b3 : m / 2 ^ 5 % 2 ^ 6 * 2 ^ 25 < 4294967296 := piece_lt _ 25 6 l3 (by decide)
    have b4 : m / 2 ^ 1 % 2 ^ 4 * 2 ^ 8 < 4294967296 := piece_lt _ 8 4 l4 (by decide)
    obtain ⟨e2, q2, r2⟩ := or_sum _ _ p1 p2 (by decide +kernel) b1 b2
    obtain ⟨e3, q3, r3⟩ := or_sum _ _ q2 p3 (by decide +kernel) r2 b3
    obtain ⟨e4, q4, r4⟩ := or_sum _ _ q3 p4 (by decide +kernel) r3 b4
    rw [u32_or_nat _ _ b1 b2, e2]
    rw [u32_or_nat _ _ r2 b3, e3]
    rw [u32_or_nat _ _ r3 b4, e4]
  rw [if_neg h6, if_neg h6]
  rfl
theorem mul_small (a s n : Nat) (c : Int) (hc : c = ((2 ^ s : Nat) : Int)) (h : a < 2 ^ n) (hs : n + s ≤ 32) : ((a : Int) * c) % 4294967296 = ((a * 2 ^ s : Nat) : Int) := by
  have := piece_lt a s n h hs
  rw [hc, ← Int.natCast_mul]
  generalize a * 2 ^ s = x at *
  omega
/-- A number of so many bits, signed. -/
def sig (v n : Nat) : Int := (v : Int) - (if v / 2 ^ (n - 1) % 2 = 1 then ((2 ^ n : Nat) : Int) else 0)
theorem signed_eq (v n : Nat) (h1 : 1 ≤ n) (h2 : n ≤ 31) (hv : v < 2 ^ n) (k : Nat) (hk : 80 < k) : inst_signed.f k (v : Int) (n : Int) = some (sig v n) := by
  have hp := two_pow_le n 31 h2
  unfold inst_signed.f
  rw [Sign_eq v (by omega) _ k hk, obs]
  unfold sgn sig
  rw [if_pos (by omega), Int.toNat_natCast, Nat.mod_eq_of_lt hv]
  have hn : 2 ^ n = 2 * 2 ^ (n - 1) := by rw [← Nat.pow_succ']; congr 1; omega
  have hb : v / 2 ^ (n - 1) < 2 := by rw [Nat.div_lt_iff_lt_mul (Nat.pow_pos (by omega))]; omega
  congr 1
  by_cases h : v / 2 ^ (n - 1) % 2 = 1
  · rw [if_pos h, if_pos h]
    generalize 2 ^ n = x at *
    unfold wrap64 wrap32
    omega
  · rw [if_neg h, if_neg h]
    have h0 : v / 2 ^ (n - 1) = 0 := by
      revert h hb; generalize v / 2 ^ (n - 1) = q; omega
    have h3 : v < 2 ^ (n - 1) := by
      rcases Nat.div_eq_zero_iff.1 h0 with h4 | h4
      · have := Nat.pow_pos (n := n - 1) (show 0 < 2 by omega); omega
      · exact h4
    generalize 2 ^ (n - 1) = y at *
    unfold wrap64 wrap32
    omega
/-- The number that a word tells, of a form. -/
def immv (f : Int) (w : Nat) : Int :=
  if f = 85 then ((w / 4096 : Nat) : Int)
  else if f = 74 then sig (w / 2147483648 * 1048576 + w / 4096 % 256 * 4096 + w / 1048576 % 2 * 2048 + w / 2097152 % 1024 * 2) 21
  else if f = 73 then sig (w / 1048576) 12
  else if f = 83 then sig (w / 33554432 * 32 + w / 128 % 32) 12
  else if f = 66 then sig (w / 2147483648 * 4096 + w / 128 % 2 * 2048 + w / 33554432 % 64 * 32 + w / 256 % 16 * 2) 13
  else if f = 72 then ((w / 1048576 % 32 : Nat) : Int)
  else 0
theorem top_mod (w p n : Nat) (hw : w < 4294967296) (h : p + n = 32) : w / 2 ^ p % 2 ^ n = w / 2 ^ p := by
  apply Nat.mod_eq_of_lt
  rw [Nat.div_lt_iff_lt_mul (Nat.pow_pos (by omega)), ← Nat.pow_add, show n + p = 32 by omega]
  exact hw
theorem wrap64_nat (a : Nat) (h : a < 4294967296) : wrap64 (a : Int) = (a : Int) := by unfold wrap64; omega
theorem imm_eq (f : Int) (w : Nat) (hw : w < 4294967296) (k : Nat) (hk : 80 < k) : inst_imm.f k f (w : Int) = some (immv f w) := by
  have F (p n : Nat) (hp : p < 32) (h1 : 1 ≤ n) (hn : n ≤ 32 - p) := Field_may w p n hw hp h1 hn k (by omega)
  unfold inst_imm.f immv
  by_cases h1 : f = 85
  · rw [if_pos h1, if_pos h1]
    have f1 : word_Field.f k (w : Int) 12 20 = _ := F 12 20 (by decide) (by decide) (by decide)
    rw [f1, obs, top_mod w 12 20 hw (by decide)]
    have : w / 2 ^ 12 ≤ w := Nat.div_le_self _ _
    rw [wrap64_nat _ (by omega)]
  rw [if_neg h1, if_neg h1]
  by_cases h2 : f = 74
  · rw [if_pos h2, if_pos h2]
    have f1 : word_Field.f k (w : Int) 31 1 = some ((w / 2 ^ 31 % 2 ^ 1 : Nat) : Int) := F 31 1 (by decide) (by decide) (by decide)
    have l1 : w / 2 ^ 31 % 2 ^ 1 < 2 ^ 1 := Nat.mod_lt _ (by decide)
    have f2 : word_Field.f k (w : Int) 12 8 = some ((w / 2 ^ 12 % 2 ^ 8 : Nat) : Int) := F 12 8 (by decide) (by decide) (by decide)
    have l2 : w / 2 ^ 12 % 2 ^ 8 < 2 ^ 8 := Nat.mod_lt _ (by decide)
    have f3 : word_Field.f k (w : Int) 20 1 = some ((w / 2 ^ 20 % 2 ^ 1 : Nat) : Int) := F 20 1 (by decide) (by decide) (by decide)
    have l3 : w / 2 ^ 20 % 2 ^ 1 < 2 ^ 1 := Nat.mod_lt _ (by decide)
    have f4 : word_Field.f k (w : Int) 21 10 = some ((w / 2 ^ 21 % 2 ^ 10 : Nat) : Int) := F 21 10 (by decide) (by decide) (by decide)
    have l4 : w / 2 ^ 21 % 2 ^ 10 < 2 ^ 10 := Nat.mod_lt _ (by decide)
    rw [f1, obs, f2, obs, f3, obs, f4, obs]
    have s1 : (((w / 2 ^ 31 % 2 ^ 1 : Nat) : Int) * 1048576) % 4294967296 = _ := mul_small _ 20 1 _ rfl l1 (by decide)
    have p1 := piece _ 20 1 l1
    have b1 := piece_lt _ 20 1 l1 (by decide)
    have s2 : (((w / 2 ^ 12 % 2 ^ 8 : Nat) : Int) * 4096) % 4294967296 = _ := mul_small _ 12 8 _ rfl l2 (by decide)
    have p2 := piece _ 12 8 l2
    have b2 := piece_lt _ 12 8 l2 (by decide)
    have s3 : (((w / 2 ^ 20 % 2 ^ 1 : Nat) : Int) * 2048) % 4294967296 = _ := mul_small _ 11 1 _ rfl l3 (by decide)
    have p3 := piece _ 11 1 l3
    have b3 := piece_lt _ 11 1 l3 (by decide)
    have s4 : (((w / 2 ^ 21 % 2 ^ 10 : Nat) : Int) * 2) % 4294967296 = _ := mul_small _ 1 10 _ rfl l4 (by decide)
    have p4 := piece _ 1 10 l4
    have b4 := piece_lt _ 1 10 l4 (by decide)
    rw [s1, s2, s3, s4]
    obtain ⟨e2, q2, r2⟩ := or_sum _ _ p1 p2 (by decide +kernel) b1 b2
    obtain ⟨e3, q3, r3⟩ := or_sum _ _ q2 p3 (by decide +kernel) r2 b3
    obtain ⟨e4, q4, r4⟩ := or_sum _ _ q3 p4 (by decide +kernel) r3 b4
    rw [u32_or_nat _ _ b1 b2, e2]
    rw [u32_or_nat _ _ r2 b3, e3]
    rw [u32_or_nat _ _ r3 b4, e4]
    have g : inst_signed.f k ((w / 2 ^ 31 % 2 ^ 1 * 2 ^ 20 + w / 2 ^ 12 % 2 ^ 8 * 2 ^ 12 + w / 2 ^ 20 % 2 ^ 1 * 2 ^ 11 + w / 2 ^ 21 % 2 ^ 10 * 2 ^ 1 : Nat) : Int) 21 = _ := signed_eq (w / 2 ^ 31 % 2 ^ 1 * 2 ^ 20 + w / 2 ^ 12 % 2 ^ 8 * 2 ^ 12 + w / 2 ^ 20 % 2 ^ 1 * 2 ^ 11 + w / 2 ^ 21 % 2 ^ 10 * 2 ^ 1) 21 (by decide) (by decide) ?_ k hk
    · rw [g, obs, top_mod w 31 1 hw (by decide)]
    · clear f1 p1 b1 f2 p2 b2 f3 p3 b3 f4 p4 b4 F s1 s2 s3 s4 e2 q2 r2 e3 q3 r3 e4 q4 r4
      generalize w / 2 ^ 31 % 2 ^ 1 = a1 at *
      generalize w / 2 ^ 12 % 2 ^ 8 = a2 at *
      generalize w / 2 ^ 20 % 2 ^ 1 = a3 at *
      generalize w / 2 ^ 21 % 2 ^ 10 = a4 at *
      omega
  rw [if_neg h2, if_neg h2]
  by_cases h3 : f = 73
  · rw [if_pos h3, if_pos h3]
    have f1 : word_Field.f k (w : Int) 20 12 = _ := F 20 12 (by decide) (by decide) (by decide)
    have g : inst_signed.f k ((w / 2 ^ 20 % 2 ^ 12 : Nat) : Int) 12 = _ := signed_eq _ 12 (by decide) (by decide) (Nat.mod_lt _ (by decide)) k hk
    rw [f1, obs, g, obs, top_mod w 20 12 hw (by decide)]
  rw [if_neg h3, if_neg h3]
  by_cases h4 : f = 83
  · rw [if_pos h4, if_pos h4]
    have f1 : word_Field.f k (w : Int) 25 7 = some ((w / 2 ^ 25 % 2 ^ 7 : Nat) : Int) := F 25 7 (by decide) (by decide) (by decide)
    have l1 : w / 2 ^ 25 % 2 ^ 7 < 2 ^ 7 := Nat.mod_lt _ (by decide)
    have f2 : word_Field.f k (w : Int) 7 5 = some ((w / 2 ^ 7 % 2 ^ 5 : Nat) : Int) := F 7 5 (by decide) (by decide) (by decide)
    have l2 : w / 2 ^ 7 % 2 ^ 5 < 2 ^ 5 := Nat.mod_lt _ (by decide)
    rw [f1, obs, f2, obs]
    have s1 : (((w / 2 ^ 25 % 2 ^ 7 : Nat) : Int) * 32) % 4294967296 = _ := mul_small _ 5 7 _ rfl l1 (by decide)
    have p1 := piece _ 5 7 l1
    have b1 := piece_lt _ 5 7 l1 (by decide)
    have p2 : w / 2 ^ 7 % 2 ^ 5 &&& (2 ^ 5 - 1) = w / 2 ^ 7 % 2 ^ 5 := by rw [Nat.and_two_pow_sub_one_eq_mod, Nat.mod_mod]
    have b2 : w / 2 ^ 7 % 2 ^ 5 < 4294967296 := by omega
    rw [s1]
    obtain ⟨e2, q2, r2⟩ := or_sum _ _ p1 p2 (by decide +kernel) b1 b2
    rw [u32_or_nat _ _ b1 b2, e2]
    have g : inst_signed.f k ((w / 2 ^ 25 % 2 ^ 7 * 2 ^ 5 + w / 2 ^ 7 % 2 ^ 5 : Nat) : Int) 12 = _ := signed_eq (w / 2 ^ 25 % 2 ^ 7 * 2 ^ 5 + w / 2 ^ 7 % 2 ^ 5) 12 (by decide) (by decide) ?_ k hk
    · rw [g, obs, top_mod w 25 7 hw (by decide)]
    · clear f1 p1 b1 f2 p2 b2 F s1 e2 q2 r2
      generalize w / 2 ^ 25 % 2 ^ 7 = a1 at *
      generalize w / 2 ^ 7 % 2 ^ 5 = a2 at *
      omega
  rw [if_neg h4, if_neg h4]
  by_cases h5 : f = 66
  · rw [if_pos h5, if_pos h5]
    have f1 : word_Field.f k (w : Int) 31 1 = some ((w / 2 ^ 31 % 2 ^ 1 : Nat) : Int) := F 31 1 (by decide) (by decide) (by decide)
    have l1 : w / 2 ^ 31 % 2 ^ 1 < 2 ^ 1 := Nat.mod_lt _ (by decide)
    have f2 : word_Field.f k (w : Int) 7 1 = some ((w / 2 ^ 7 % 2 ^ 1 : Nat) : Int) := F 7 1 (by decide) (by decide) (by decide)
    have l2 : w / 2 ^ 7 % 2 ^ 1 < 2 ^ 1 := Nat.mod_lt _ (by decide)
    have f3 : word_Field.f k (w : Int) 25 6 = some ((w / 2 ^ 25 % 2 ^ 6 : Nat) : Int) := F 25 6 (by decide) (by decide) (by decide)
    have l3 : w / 2 ^ 25 % 2 ^ 6 < 2 ^ 6 := Nat.mod_lt _ (by decide)
    have f4 : word_Field.f k (w : Int) 8 4 = some ((w / 2 ^ 8 % 2 ^ 4 : Nat) : Int) := F 8 4 (by decide) (by decide) (by decide)
    have l4 : w / 2 ^ 8 % 2 ^ 4 < 2 ^ 4 := Nat.mod_lt _ (by decide)
    rw [f1, obs, f2, obs, f3, obs, f4, obs]
    have s1 : (((w / 2 ^ 31 % 2 ^ 1 : Nat) : Int) * 4096) % 4294967296 = _ := mul_small _ 12 1 _ rfl l1 (by decide)
    have p1 := piece _ 12 1 l1
    have b1 := piece_lt _ 12 1 l1 (by decide)
    have s2 : (((w / 2 ^ 7 % 2 ^ 1 : Nat) : Int) * 2048) % 4294967296 = _ := mul_small _ 11 1 _ rfl l2 (by decide)
    have p2 := piece _ 11 1 l2
    have b2 := piece_lt _ 11 1 l2 (by decide)
    have s3 : (((w / 2 ^ 25 % 2 ^ 6 : Nat) : Int) * 32) % 4294967296 = _ := mul_small _ 5 6 _ rfl l3 (by decide)
    have p3 := piece _ 5 6 l3
    have b3 := piece_lt _ 5 6 l3 (by decide)
    have s4 : (((w / 2 ^ 8 % 2 ^ 4 : Nat) : Int) * 2) % 4294967296 = _ := mul_small _ 1 4 _ rfl l4 (by decide)
    have p4 := piece _ 1 4 l4
    have b4 := piece_lt _ 1 4 l4 (by decide)
    rw [s1, s2, s3, s4]
    obtain ⟨e2, q2, r2⟩ := or_sum _ _ p1 p2 (by decide +kernel) b1 b2
    obtain ⟨e3, q3, r3⟩ := or_sum _ _ q2 p3 (by decide +kernel) r2 b3
    obtain ⟨e4, q4, r4⟩ := or_sum _ _ q3 p4 (by decide +kernel) r3 b4
    rw [u32_or_nat _ _ b1 b2, e2]
    rw [u32_or_nat _ _ r2 b3, e3]
    rw [u32_or_nat _ _ r3 b4, e4]
    have g : inst_signed.f k ((w / 2 ^ 31 % 2 ^ 1 * 2 ^ 12 + w / 2 ^ 7 % 2 ^ 1 * 2 ^ 11 + w / 2 ^ 25 % 2 ^ 6 * 2 ^ 5 + w / 2 ^ 8 % 2 ^ 4 * 2 ^ 1 : Nat) : Int) 13 = _ := signed_eq (w / 2 ^ 31 % 2 ^ 1 * 2 ^ 12 + w / 2 ^ 7 % 2 ^ 1 * 2 ^ 11 + w / 2 ^ 25 % 2 ^ 6 * 2 ^ 5 + w / 2 ^ 8 % 2 ^ 4 * 2 ^ 1) 13 (by decide) (by decide) ?_ k hk
    · rw [g, obs, top_mod w 31 1 hw (by decide)]
    · clear f1 p1 b1 f2 p2 b2 f3 p3 b3 f4 p4 b4 F s1 s2 s3 s4 e2 q2 r2 e3 q3 r3 e4 q4 r4
      generalize w / 2 ^ 31 % 2 ^ 1 = a1 at *
      generalize w / 2 ^ 7 % 2 ^ 1 = a2 at *
      generalize w / 2 ^ 25 % 2 ^ 6 = a3 at *
      generalize w / 2 ^ 8 % 2 ^ 4 = a4 at *
      omega
  rw [if_neg h5, if_neg h5]
  by_cases h6 : f = 72
  · rw [if_pos h6, if_pos h6]
    have f1 : word_Field.f k (w : Int) 20 5 = _ := F 20 5 (by decide) (by decide) (by decide)
    rw [f1, obs, wrap64_nat _ (by omega)]
  rw [if_neg h6, if_neg h6]
/-! ## what tells a kind -/
def tellsP (a b c d : Int) (w : Nat) : Prop :=
  ((a = 85 ∨ a = 74) ∧ ((w % 128 : Nat) : Int) = b) ∨ ((a = 82 ∨ a = 72) ∧ ((w % 128 : Nat) : Int) = b ∧ ((w / 4096 % 8 : Nat) : Int) = c ∧ ((w / 33554432 : Nat) : Int) = d)
    ∨ ((a = 73 ∨ a = 83 ∨ a = 66) ∧ ((w % 128 : Nat) : Int) = b ∧ ((w / 4096 % 8 : Nat) : Int) = c)
instance (a b c d : Int) (w : Nat) : Decidable (tellsP a b c d w) := by unfold tellsP; infer_instance
theorem beq_dec (x y : Int) : (x == y) = decide (x = y) := by
  by_cases h : x = y
  · rw [beq_iff_eq.mpr h, decide_eq_true h]
  · rw [beq_eq_false_iff_ne.mpr h, decide_eq_false h]
theorem tells_eq (a b c d : Int) (w : Nat) (hw : w < 4294967296) (k : Nat) (hk : 90 < k) : inst_tells.f k a b c d (w : Int) = some (decide (tellsP a b c d w)) := by
  obtain ⟨k, rfl⟩ : ∃ m, k = m + 3 := ⟨k - 3, by omega⟩
  have f1 (k : Nat) (hk : 80 < k) : word_Field.f k (w : Int) 0 7 = some ((w % 128 : Nat) : Int) := fld0 w 7 hw (by decide) (by decide) k hk
  have f2 (k : Nat) (hk : 80 < k) : word_Field.f k (w : Int) 12 3 = some ((w / 4096 % 8 : Nat) : Int) := Field_may w 12 3 hw (by decide) (by decide) (by decide) k (by omega)
  have f3 (k : Nat) (hk : 80 < k) : word_Field.f k (w : Int) 25 7 = some ((w / 33554432 : Nat) : Int) := by
    have := Field_may w 25 7 hw (by decide) (by decide) (by decide) k (by omega)
    rw [top_mod w 25 7 hw (by decide)] at this
    exact this
  unfold inst_tells.f
  have hj1 : ∀ k, 83 < k → (a = 82 ∨ a = 72) → inst_tells.j1 k (w : Int) a true a b c d = some (decide (tellsP a b c d w)) := by
    intro k hk ha
    obtain ⟨k, rfl⟩ : ∃ m, k = m + 1 := ⟨k - 1, by omega⟩
    simp only [inst_tells.j1]
    rw [if_true, f1 k (by omega), obs, f2 k (by omega), obs, f3 k (by omega), obs]
    by_cases e1 : ((w % 128 : Nat) : Int) = b
    · rw [if_pos e1]
      by_cases e2 : ((w / 4096 % 8 : Nat) : Int) = c
      · rw [if_pos e2, beq_dec]; congr 1; rw [decide_eq_decide]; unfold tellsP; constructor
        · intro e; exact Or.inr (Or.inl ⟨ha, e1, e2, e⟩)
        · rintro (⟨h, _⟩ | ⟨_, _, _, e⟩ | ⟨h, _⟩) <;> first | exact e | (exfalso; omega)
      · rw [if_neg e2, decide_eq_false]
        rintro (⟨h, _⟩ | ⟨_, _, e, _⟩ | ⟨h, _⟩) <;> first | exact e2 e | omega
    · rw [if_neg e1, decide_eq_false]
      rintro (⟨h, _⟩ | ⟨_, e, _, _⟩ | ⟨h, _⟩) <;> first | exact e1 e | omega
  have hj2 : ∀ k, 83 < k → (a = 73 ∨ a = 83 ∨ a = 66) → inst_tells.j2 k (w : Int) true a b c d = some (decide (tellsP a b c d w)) := by
    intro k hk ha
    obtain ⟨k, rfl⟩ : ∃ m, k = m + 1 := ⟨k - 1, by omega⟩
    simp only [inst_tells.j2]
    rw [if_true, f1 k (by omega), obs, f2 k (by omega), obs]
    by_cases e1 : ((w % 128 : Nat) : Int) = b
    · rw [if_pos e1, beq_dec]; congr 1; rw [decide_eq_decide]; unfold tellsP; constructor
      · intro e; exact Or.inr (Or.inr ⟨ha, e1, e⟩)
      · rintro (⟨h, _⟩ | ⟨h, _, _, _⟩ | ⟨_, _, e⟩) <;> first | exact e | (exfalso; omega)
    · rw [if_neg e1, decide_eq_false]
      rintro (⟨h, _⟩ | ⟨h, _, _, _⟩ | ⟨_, e, _⟩) <;> first | exact e1 e | omega
  have hj0 : ∀ k, 83 < k → (a = 85 ∨ a = 74) → inst_tells.j0 k (w : Int) a true a b c d = some (decide (tellsP a b c d w)) := by
    intro k hk ha
    obtain ⟨k, rfl⟩ : ∃ m, k = m + 1 := ⟨k - 1, by omega⟩
    simp only [inst_tells.j0]
    rw [if_true, f1 k (by omega), obs, beq_dec]; congr 1; rw [decide_eq_decide]; unfold tellsP; constructor
    · intro e; exact Or.inl ⟨ha, e⟩
    · rintro (⟨_, e⟩ | ⟨h, _, _, _⟩ | ⟨h, _, _⟩) <;> first | exact e | (exfalso; omega)
  by_cases h1 : a = 85
  · rw [if_pos h1, show (a == 85) = true from beq_iff_eq.mpr h1, hj0 _ (by omega) (Or.inl h1)]
  rw [if_neg h1]
  by_cases h2 : a = 74
  · rw [show (a == 74) = true from beq_iff_eq.mpr h2, hj0 _ (by omega) (Or.inr h2)]
  rw [show (a == 74) = false from beq_eq_false_iff_ne.mpr h2]
  simp only [inst_tells.j0]
  rw [if_neg (by decide)]
  by_cases h3 : a = 82
  · rw [if_pos h3, show (a == 82) = true from beq_iff_eq.mpr h3, hj1 _ (by omega) (Or.inl h3)]
  rw [if_neg h3]
  by_cases h4 : a = 72
  · rw [show (a == 72) = true from beq_iff_eq.mpr h4, hj1 _ (by omega) (Or.inr h4)]
  rw [show (a == 72) = false from beq_eq_false_iff_ne.mpr h4]
  simp only [inst_tells.j1]
  rw [if_neg (by decide)]
  by_cases h5 : a = 73
  · rw [if_pos h5, show (a == 73) = true from beq_iff_eq.mpr h5, hj2 _ (by omega) (Or.inl h5)]
  rw [if_neg h5]
  by_cases h6 : a = 83
  · rw [if_pos h6, show (a == 83) = true from beq_iff_eq.mpr h6, hj2 _ (by omega) (Or.inr (Or.inl h6))]
  rw [if_neg h6]
  by_cases h7 : a = 66
  · rw [show (a == 66) = true from beq_iff_eq.mpr h7, hj2 _ (by omega) (Or.inr (Or.inr h7))]
  rw [show (a == 66) = false from beq_eq_false_iff_ne.mpr h7]
  simp only [inst_tells.j2]
  rw [if_neg (by decide), decide_eq_false]
  rintro (⟨h, _⟩ | ⟨h, _⟩ | ⟨h, _⟩) <;> omega
/-- A kind's row. -/
theorem rows_ok : ∀ n : Fin 45, kGet n.val = ((kGet n.val).1, (((kGet n.val).2.1.toNat : Nat) : Int), (((kGet n.val).2.2.1.toNat : Nat) : Int), (((kGet n.val).2.2.2.toNat : Nat) : Int)) ∧ (kGet n.val).2.1.toNat < 128 ∧ (kGet n.val).2.1.toNat % 4 = 3 ∧ (kGet n.val).2.1.toNat ≠ 115 ∧ (kGet n.val).2.2.1.toNat < 8 ∧ (kGet n.val).2.2.2.toNat < 128 ∧ (kGet n.val).2.2.2.toNat % 32 = 0 ∨
    kGet n.val = ((kGet n.val).1, (((kGet n.val).2.1.toNat : Nat) : Int), (((kGet n.val).2.2.1.toNat : Nat) : Int), (((kGet n.val).2.2.2.toNat : Nat) : Int)) ∧ (kGet n.val).2.1.toNat < 128 ∧ (kGet n.val).2.1.toNat % 4 = 3 ∧ (kGet n.val).2.1.toNat ≠ 115 ∧ (kGet n.val).2.2.1.toNat < 8 ∧ (kGet n.val).2.2.2.toNat < 128 ∧ (kGet n.val).1 = 82 := by decide +kernel
theorem rows_form : ∀ n : Fin 45, ((kGet n.val).1 = 85 ∨ (kGet n.val).1 = 74 ∨ (kGet n.val).1 = 73 ∨ (kGet n.val).1 = 66 ∨ (kGet n.val).1 = 83 ∨ (kGet n.val).1 = 72 ∨ (kGet n.val).1 = 82) ∧ ((kGet n.val).1 = 85 ∨ (kGet n.val).1 = 74 → (kGet n.val).2.2.1.toNat = 0 ∧ (kGet n.val).2.2.2.toNat = 0) ∧ ((kGet n.val).1 = 73 ∨ (kGet n.val).1 = 83 ∨ (kGet n.val).1 = 66 → (kGet n.val).2.2.2.toNat = 0) := by decide +kernel
/-- A kind that has a form of its own. -/
structure Row (n : Nat) (a : Int) (b c d : Nat) : Prop where
  get : kGet n = (a, (b : Int), (c : Int), (d : Int))
  hb : b < 128
  h4 : b % 4 = 3
  h115 : b ≠ 115
  hc : c < 8
  hd : d < 128
  form : a = 85 ∨ a = 74 ∨ a = 73 ∨ a = 66 ∨ a = 83 ∨ a = 72 ∨ a = 82
  up : a = 85 ∨ a = 74 → c = 0 ∧ d = 0
  mid : a = 73 ∨ a = 83 ∨ a = 66 → d = 0
theorem row_at (n : Nat) (hn : n < 45) : ∃ a b c d, Row n a b c d := by
  obtain ⟨h1, h2, h3⟩ := rows_form ⟨n, hn⟩
  rcases rows_ok ⟨n, hn⟩ with ⟨e1, e2, e3, e4, e5, e6, _⟩ | ⟨e1, e2, e3, e4, e5, e6, _⟩
  · exact ⟨_, _, _, _, e1, e2, e3, e4, e5, e6, h1, h2, h3⟩
  · exact ⟨_, _, _, _, e1, e2, e3, e4, e5, e6, h1, h2, h3⟩
def apartB (r s : Int × Int × Int × Int) : Bool :=
  decide (r.1 = 69 ∨ s.1 = 69 ∨ r.2.1 ≠ s.2.1 ∨ ((r.1 ≠ 85 ∧ r.1 ≠ 74 ∧ s.1 ≠ 85 ∧ s.1 ≠ 74) ∧ (r.2.2.1 ≠ s.2.2.1 ∨ ((r.1 = 82 ∨ r.1 = 72) ∧ (s.1 = 82 ∨ s.1 = 72) ∧ r.2.2.2 ≠ s.2.2.2))))
theorem rows_apart : ∀ i j : Fin 47, i = j ∨ apartB (kGet i.val) (kGet j.val) = true := by decide +kernel
theorem tells_one (i j w : Nat) (hi : i < 47) (hj : j < 47) (h1 : tellsP (kGet i).1 (kGet i).2.1 (kGet i).2.2.1 (kGet i).2.2.2 w) (h2 : tellsP (kGet j).1 (kGet j).2.1 (kGet j).2.2.1 (kGet j).2.2.2 w) : i = j := by
  rcases rows_apart ⟨i, hi⟩ ⟨j, hj⟩ with h | h
  · exact congrArg Fin.val h
  · exfalso
    have h := of_decide_eq_true h
    simp only at h
    unfold tellsP at h1 h2
    omega
/-! ## Decode, Encode -/
def decx (j w : Nat) : Int × Int × Int × Int × Int × Int :=
  ((j : Int), if hRd (kGet j).1 = true then ((w / 128 % 32 : Nat) : Int) else 0, if hR1 (kGet j).1 = true then ((w / 32768 % 32 : Nat) : Int) else 0, if hR2 (kGet j).1 = true then ((w / 1048576 % 32 : Nat) : Int) else 0, immv (kGet j).1 w, 0)
def tk (j w : Nat) : Prop := tellsP (kGet j).1 (kGet j).2.1 (kGet j).2.2.1 (kGet j).2.2.2 w
instance (j w : Nat) : Decidable (tk j w) := by unfold tk; infer_instance
theorem or_field (c : Bool) (w p : Nat) (hw : w < 4294967296) (hp : p ≤ 27) (k : Nat) (hk : 80 < k) : (if c = true then (word_Field.f k (w : Int) (p : Int) 5).bind fun q => some (wrap64 q) else some 0) = some (if c = true then ((w / 2 ^ p % 32 : Nat) : Int) else 0) := by
  cases c
  · rfl
  · rw [if_pos rfl, if_pos rfl, show word_Field.f k (w : Int) (p : Int) 5 = _ from Field_may w p 5 hw (by omega) (by decide) (by omega) k (by omega), obs, show (2 : Nat) ^ 5 = 32 from rfl, wrap64_nat _ (by have := Nat.mod_lt (w / 2 ^ p) (show 0 < 32 by decide); omega)]
theorem Decode_step (w j : Nat) (hw : w < 4294967296) (hj : j < 47) (k : Nat) (hk : 100 < k) : inst_Decode.l0 (k + 1) (w : Int) (j : Int) = if tk j w then some (decx j w) else inst_Decode.l0 k (w : Int) ((j + 1 : Nat) : Int) := by
  simp only [inst_Decode.l0]
  rw [if_pos (by omega), if_pos (by omega), Int.toNat_natCast, tells_eq _ _ _ _ w hw k (by omega), obs]
  by_cases h : tk j w
  · have h' : tellsP (kGet j).1 (kGet j).2.1 (kGet j).2.2.1 (kGet j).2.2.2 w := h
    rw [if_pos h, if_pos (decide_eq_true h'), imm_eq _ w hw k (by omega), obs, has_eq _ k (by omega), obs]
    have o1 := or_field (hRd (kGet j).1) w 7 hw (by decide) k (by omega)
    have o2 := or_field (hR1 (kGet j).1) w 15 hw (by decide) k (by omega)
    have o3 := or_field (hR2 (kGet j).1) w 20 hw (by decide) k (by omega)
    erw [o1, obs, o2, obs, o3, obs]
    rfl
  · have h' : ¬ tellsP (kGet j).1 (kGet j).2.1 (kGet j).2.2.1 (kGet j).2.2.2 w := h
    rw [if_neg h, if_neg (by rw [decide_eq_false h']; decide), show wrap64 ((j : Int) + 1) = ((j + 1 : Nat) : Int) by rw [wrap64_lit _ (by omega) (by omega)]; omega]
theorem Decode_from (w : Nat) (hw : w < 4294967296) (d : Nat) : ∀ (j k : Nat), j + d = 47 → 101 + d < k →
    (∀ i, j ≤ i → i < 47 → tk i w → inst_Decode.l0 k (w : Int) (j : Int) = some (decx i w)) ∧ ((∀ i, j ≤ i → i < 47 → ¬ tk i w) → inst_Decode.l0 k (w : Int) (j : Int) = some (0, 0, 0, 0, 0, 20)) := by
  induction d with
  | zero =>
    intro j k hj hk
    obtain ⟨k, rfl⟩ : ∃ m, k = m + 1 := ⟨k - 1, by omega⟩
    refine ⟨fun i h1 h2 => by omega, fun _ => ?_⟩
    simp only [inst_Decode.l0]
    rw [if_neg (by omega)]
  | succ d ih =>
    intro j k hj hk
    obtain ⟨k, rfl⟩ : ∃ m, k = m + 1 := ⟨k - 1, by omega⟩
    rw [Decode_step w j hw (by omega) k (by omega)]
    obtain ⟨i1, i2⟩ := ih (j + 1) k (by omega) (by omega)
    constructor
    · intro i h1 h2 h3
      by_cases h : tk j w
      · rw [if_pos h, tells_one i j w h2 (by omega) h3 h]
      · rw [if_neg h]
        refine i1 i ?_ h2 h3
        rcases Nat.lt_or_ge j i with h4 | h4
        · omega
        · exact absurd (show tk j w by rw [show j = i by omega]; exact h3) h
    · intro h
      rw [if_neg (h j (by omega) (by omega))]
      exact i2 (fun i h1 h2 => h i (by omega) h2)
theorem tk_not (j w : Nat) (hj : j < 47) (h : tk j w) : w % 128 ≠ 115 ∧ j < 45 := by
  by_cases h1 : j < 45
  · obtain ⟨a, b, c, d, R⟩ := row_at j h1
    refine ⟨?_, h1⟩
    unfold tk tellsP at h
    rw [R.get] at h
    have := R.h115
    simp only at h
    omega
  · exfalso
    have hk : (kGet j).1 = 69 := by
      rcases (show j = 45 ∨ j = 46 by omega) with rfl | rfl <;> rfl
    unfold tk tellsP at h
    rw [hk] at h
    omega
/-- Decode, of a word that tells a kind. -/
theorem Decode_some (j w : Nat) (hw : w < 4294967296) (hj : j < 47) (h : tk j w) (k : Nat) (hk : 150 < k) : inst_Decode.f k (w : Int) = some (decx j w) := by
  have h1 := (tk_not j w hj h).1
  unfold inst_Decode.f
  rw [if_neg (by omega), if_neg (by omega)]
  exact (Decode_from w hw 47 0 k (by omega) (by omega)).1 j (by omega) hj h
theorem Decode_none (w : Nat) (hw : w < 4294967296) (h1 : w ≠ 115) (h2 : w ≠ 1048691) (h : ∀ j, j < 47 → ¬ tk j w) (k : Nat) (hk : 150 < k) : inst_Decode.f k (w : Int) = some (0, 0, 0, 0, 0, 20) := by
  unfold inst_Decode.f
  rw [if_neg (by omega), if_neg (by omega)]
  exact (Decode_from w hw 47 0 k (by omega) (by omega)).2 (fun j _ hj => h j hj)
theorem Decode_115 (k : Nat) : inst_Decode.f k (115 : Int) = some (45, 0, 0, 0, 0, 0) := rfl
theorem Decode_ebreak (k : Nat) : inst_Decode.f k (1048691 : Int) = some (46, 0, 0, 0, 0, 0) := rfl
theorem frm_row {n : Nat} {a : Int} {b c d : Nat} (R : Row n a b c d) (hn : n < 45) : frm (n : Int) = a := by
  unfold frm
  rw [if_pos (by omega), Int.toNat_natCast, R.get]
theorem right_row {n : Nat} {a : Int} {b c d : Nat} (R : Row n a b c d) (hn : n < 45) (rd rs1 rs2 m : Int) :
    rightv (n : Int) rd rs1 rs2 m = (regv (hRd a) rd && (regv (hR1 a) rs1 && (regv (hR2 a) rs2 && numb a m))) := by
  unfold rightv
  rw [frm_row R hn, decide_eq_true (by have := R.form; omega), Bool.true_and]
theorem regv_nat (b : Bool) (n : Int) (h : regv b n = true) : ∃ x : Nat, n = (x : Int) ∧ x < 32 ∧ (b = false → x = 0) := by
  unfold regv at h
  rcases of_decide_eq_true h with ⟨_, h1, h2⟩ | h1
  · exact ⟨n.toNat, by omega, by omega, fun e => by simp_all⟩
  · exact ⟨0, by omega, by omega, fun _ => rfl⟩
theorem regv_of (b : Bool) (x : Nat) (h : x < 32) (h0 : b = false → x = 0) : regv b (x : Int) = true := by
  unfold regv
  apply decide_eq_true
  cases b
  · right; rw [h0 rfl]; rfl
  · left; exact ⟨rfl, by omega, by omega⟩
theorem zk (k : Nat) : 0 * k &&& 0 = 0 * k := by rw [Nat.zero_mul, Nat.and_zero]
theorem zl (k : Nat) : 0 * k < 4294967296 := by rw [Nat.zero_mul]; decide
theorem piece' (a s n M : Nat) (hM : M = (2 ^ n - 1) * 2 ^ s) (h : a < 2 ^ n) : (a * 2 ^ s) &&& M = a * 2 ^ s := by rw [hM]; exact piece a s n h
/-- Seven pieces that do not meet. -/
theorem chain7 (x1 x2 x3 x4 x5 x6 x7 m1 m2 m3 m4 m5 m6 m7 : Nat) (h1 : x1 &&& m1 = x1) (h2 : x2 &&& m2 = x2) (h3 : x3 &&& m3 = x3) (h4 : x4 &&& m4 = x4) (h5 : x5 &&& m5 = x5) (h6 : x6 &&& m6 = x6) (h7 : x7 &&& m7 = x7)
    (l1 : x1 < 4294967296) (l2 : x2 < 4294967296) (l3 : x3 < 4294967296) (l4 : x4 < 4294967296) (l5 : x5 < 4294967296) (l6 : x6 < 4294967296) (l7 : x7 < 4294967296)
    (d : m1 &&& m2 = 0 ∧ (m1 ||| m2) &&& m3 = 0 ∧ ((m1 ||| m2) ||| m3) &&& m4 = 0 ∧ (((m1 ||| m2) ||| m3) ||| m4) &&& m5 = 0 ∧ ((((m1 ||| m2) ||| m3) ||| m4) ||| m5) &&& m6 = 0 ∧ (((((m1 ||| m2) ||| m3) ||| m4) ||| m5) ||| m6) &&& m7 = 0) :
    Go.bits .or .u32 (Go.bits .or .u32 (Go.bits .or .u32 (Go.bits .or .u32 (Go.bits .or .u32 (Go.bits .or .u32 (x1 : Int) (x2 : Int)) (x3 : Int)) (x4 : Int)) (x5 : Int)) (x6 : Int)) (x7 : Int) = ((x1 + x2 + x3 + x4 + x5 + x6 + x7 : Nat) : Int) ∧ x1 + x2 + x3 + x4 + x5 + x6 + x7 < 4294967296 := by
  obtain ⟨d2, d3, d4, d5, d6, d7⟩ := d
  obtain ⟨e2, q2, r2⟩ := or_sum _ _ h1 h2 d2 l1 l2
  obtain ⟨e3, q3, r3⟩ := or_sum _ _ q2 h3 d3 r2 l3
  obtain ⟨e4, q4, r4⟩ := or_sum _ _ q3 h4 d4 r3 l4
  obtain ⟨e5, q5, r5⟩ := or_sum _ _ q4 h5 d5 r4 l5
  obtain ⟨e6, q6, r6⟩ := or_sum _ _ q5 h6 d6 r5 l6
  obtain ⟨e7, q7, r7⟩ := or_sum _ _ q6 h7 d7 r6 l7
  rw [u32_or_nat _ _ l1 l2, e2, u32_or_nat _ _ r2 l3, e3, u32_or_nat _ _ r3 l4, e4, u32_or_nat _ _ r4 l5, e5, u32_or_nat _ _ r5 l6, e6, u32_or_nat _ _ r6 l7, e7]
  exact ⟨rfl, r7⟩
/-- The bits that a form's number has. -/
theorem told_mask (f : Int) (m : Nat) : toldv f m < 4294967296 ∧ (f = 85 ∨ f = 74 → toldv f m &&& 4294963200 = toldv f m) ∧ (f = 73 ∨ f = 72 → toldv f m &&& 4293918720 = toldv f m) ∧ (f = 83 ∨ f = 66 → toldv f m &&& 4261416832 = toldv f m) ∧ (f = 82 → toldv f m = 0) ∧
    (f = 72 → m < 32 → toldv f m &&& 32505856 = toldv f m) := by
  unfold toldv
  by_cases h1 : f = 85
  · rw [if_pos h1]
    have l := Nat.mod_lt m (show 0 < 2 ^ 20 by decide)
    have p := piece' _ 12 20 4294963200 (by decide +kernel) l
    refine ⟨piece_lt _ 12 20 l (by decide), fun _ => p, ?_, ?_, ?_, ?_⟩ <;> intros <;> omega
  rw [if_neg h1]
  by_cases h2 : f = 74
  · rw [if_pos h2]
    have l1 := Nat.mod_lt (m / 1048576) (show 0 < 2 ^ 1 by decide)
    have l2 := Nat.mod_lt (m / 4096) (show 0 < 2 ^ 8 by decide)
    have l3 := Nat.mod_lt (m / 2048) (show 0 < 2 ^ 1 by decide)
    have l4 := Nat.mod_lt (m / 2) (show 0 < 2 ^ 10 by decide)
    obtain ⟨_, q2, r2⟩ := or_sum _ _ (piece _ 31 1 l1) (piece _ 12 8 l2) (by decide +kernel) (piece_lt _ 31 1 l1 (by decide)) (piece_lt _ 12 8 l2 (by decide))
    obtain ⟨_, q3, r3⟩ := or_sum _ _ q2 (piece _ 20 1 l3) (by decide +kernel) r2 (piece_lt _ 20 1 l3 (by decide))
    obtain ⟨_, q4, r4⟩ := or_sum _ _ q3 (piece _ 21 10 l4) (by decide +kernel) r3 (piece_lt _ 21 10 l4 (by decide))
    refine ⟨r4, fun _ => q4, ?_, ?_, ?_, ?_⟩ <;> (intro h; rw [h2] at h; exact absurd h (by decide))
  rw [if_neg h2]
  by_cases h3 : f = 73 ∨ f = 72
  · rw [if_pos h3]
    have l := Nat.mod_lt m (show 0 < 2 ^ 12 by decide)
    have p := piece' _ 20 12 4293918720 (by decide +kernel) l
    refine ⟨piece_lt _ 20 12 l (by decide), ?_, fun _ => p, ?_, ?_, ?_⟩
    · intros; omega
    · intros; omega
    · intros; omega
    · intro _ h
      rw [Nat.mod_eq_of_lt (show m < 4096 by omega)]
      exact piece' m 20 5 32505856 (by decide +kernel) h
  rw [if_neg h3]
  by_cases h5 : f = 83
  · rw [if_pos h5]
    have l1 := Nat.mod_lt (m / 32) (show 0 < 2 ^ 7 by decide)
    have l2 := Nat.mod_lt m (show 0 < 2 ^ 5 by decide)
    obtain ⟨_, q2, r2⟩ := or_sum _ _ (piece _ 25 7 l1) (piece _ 7 5 l2) (by decide +kernel) (piece_lt _ 25 7 l1 (by decide)) (piece_lt _ 7 5 l2 (by decide))
    refine ⟨r2, ?_, ?_, fun _ => q2, ?_, ?_⟩ <;> intros <;> omega
  rw [if_neg h5]
  by_cases h6 : f = 66
  · rw [if_pos h6]
    have l1 := Nat.mod_lt (m / 4096) (show 0 < 2 ^ 1 by decide)
    have l2 := Nat.mod_lt (m / 2048) (show 0 < 2 ^ 1 by decide)
    have l3 := Nat.mod_lt (m / 32) (show 0 < 2 ^ 6 by decide)
    have l4 := Nat.mod_lt (m / 2) (show 0 < 2 ^ 4 by decide)
    obtain ⟨_, q2, r2⟩ := or_sum _ _ (piece _ 31 1 l1) (piece _ 7 1 l2) (by decide +kernel) (piece_lt _ 31 1 l1 (by decide)) (piece_lt _ 7 1 l2 (by decide))
    obtain ⟨_, q3, r3⟩ := or_sum _ _ q2 (piece _ 25 6 l3) (by decide +kernel) r2 (piece_lt _ 25 6 l3 (by decide))
    obtain ⟨_, q4, r4⟩ := or_sum _ _ q3 (piece _ 8 4 l4) (by decide +kernel) r3 (piece_lt _ 8 4 l4 (by decide))
    refine ⟨r4, ?_, ?_, fun _ => q4, ?_, ?_⟩ <;> (intro h; rw [h6] at h; exact absurd h (by decide))
  rw [if_neg h6]
  refine ⟨by decide, ?_, ?_, ?_, ?_, ?_⟩ <;> intros <;> first | rfl | omega
/-- An instruction's word. -/
def encw (a : Int) (b c d rd r1 r2 m : Nat) : Nat := b + c * 4096 + d * 33554432 + r1 * 32768 + toldv a m + rd * 128 + r2 * 1048576
theorem enc_chain {n : Nat} {a : Int} {b c d : Nat} (R : Row n a b c d) (rd r1 r2 m : Nat) (hrd : rd < 32) (hr1 : r1 < 32) (hr2 : r2 < 32)
    (zd : hRd a = false → rd = 0) (z1 : hR1 a = false → r1 = 0) (z2 : hR2 a = false → r2 = 0) (h72 : a = 72 → m < 32) :
    Go.bits .or .u32 (Go.bits .or .u32 (Go.bits .or .u32 (Go.bits .or .u32 (Go.bits .or .u32 (Go.bits .or .u32 (b : Int) ((c * 4096 : Nat) : Int)) ((d * 33554432 : Nat) : Int)) ((r1 * 32768 : Nat) : Int)) ((toldv a m : Nat) : Int)) ((rd * 128 : Nat) : Int)) ((r2 * 1048576 : Nat) : Int) = ((encw a b c d rd r1 r2 m : Nat) : Int) ∧ encw a b c d rd r1 r2 m < 4294967296 := by
  have hb := R.hb
  have pb : b &&& 127 = b := by rw [show 127 = 2 ^ 7 - 1 from rfl, Nat.and_two_pow_sub_one_eq_mod]; exact Nat.mod_eq_of_lt hb
  have pc : c * 4096 &&& 28672 = c * 4096 := piece' c 12 3 28672 (by decide +kernel) R.hc
  have pd : d * 33554432 &&& 4261412864 = d * 33554432 := piece' d 25 7 4261412864 (by decide +kernel) R.hd
  have p1 : r1 * 32768 &&& 1015808 = r1 * 32768 := piece' r1 15 5 1015808 (by decide +kernel) hr1
  have prd : rd * 128 &&& 3968 = rd * 128 := piece' rd 7 5 3968 (by decide +kernel) hrd
  have p2 : r2 * 1048576 &&& 32505856 = r2 * 1048576 := piece' r2 20 5 32505856 (by decide +kernel) hr2
  obtain ⟨tl, t1, t2, t3, t4, t5⟩ := told_mask a m
  have lc := R.hc
  have ld := R.hd
  have up := R.up
  have mid := R.mid
  have B1 : b < 4294967296 := by omega
  have B2 : c * 4096 < 4294967296 := piece_lt c 12 3 R.hc (by decide)
  have B3 : d * 33554432 < 4294967296 := piece_lt d 25 7 R.hd (by decide)
  have B4 : r1 * 32768 < 4294967296 := piece_lt r1 15 5 hr1 (by decide)
  have B6 : rd * 128 < 4294967296 := piece_lt rd 7 5 hrd (by decide)
  have B7 : r2 * 1048576 < 4294967296 := piece_lt r2 20 5 hr2 (by decide)
  rcases R.form with e | e | e | e | e | e | e
  · obtain ⟨rfl, rfl⟩ := up (Or.inl e)
    obtain rfl := z1 (by rw [e]; rfl)
    obtain rfl := z2 (by rw [e]; rfl)
    exact chain7 _ _ _ _ _ _ _ 127 0 0 0 4294963200 3968 0 pb (zk _) (zk _) (zk _) (t1 (Or.inl e)) prd (zk _) B1 B2 B3 B4 tl B6 B7 (by decide +kernel)
  · obtain ⟨rfl, rfl⟩ := up (Or.inr e)
    obtain rfl := z1 (by rw [e]; rfl)
    obtain rfl := z2 (by rw [e]; rfl)
    exact chain7 _ _ _ _ _ _ _ 127 0 0 0 4294963200 3968 0 pb (zk _) (zk _) (zk _) (t1 (Or.inr e)) prd (zk _) B1 B2 B3 B4 tl B6 B7 (by decide +kernel)
  · obtain rfl := mid (Or.inl e)
    obtain rfl := z2 (by rw [e]; rfl)
    exact chain7 _ _ _ _ _ _ _ 127 28672 0 1015808 4293918720 3968 0 pb pc (zk _) p1 (t2 (Or.inl e)) prd (zk _) B1 B2 B3 B4 tl B6 B7 (by decide +kernel)
  · obtain rfl := mid (Or.inr (Or.inr e))
    obtain rfl := zd (by rw [e]; rfl)
    exact chain7 _ _ _ _ _ _ _ 127 28672 0 1015808 4261416832 0 32505856 pb pc (zk _) p1 (t3 (Or.inr e)) (zk _) p2 B1 B2 B3 B4 tl B6 B7 (by decide +kernel)
  · obtain rfl := mid (Or.inr (Or.inl e))
    obtain rfl := zd (by rw [e]; rfl)
    exact chain7 _ _ _ _ _ _ _ 127 28672 0 1015808 4261416832 0 32505856 pb pc (zk _) p1 (t3 (Or.inl e)) (zk _) p2 B1 B2 B3 B4 tl B6 B7 (by decide +kernel)
  · obtain rfl := z2 (by rw [e]; rfl)
    exact chain7 _ _ _ _ _ _ _ 127 28672 4261412864 1015808 32505856 3968 0 pb pc pd p1 (t5 e (h72 e)) prd (zk _) B1 B2 B3 B4 tl B6 B7 (by decide +kernel)
  · have t0 := t4 e
    have t6 : toldv a m &&& 0 = toldv a m := by rw [t0]; rfl
    exact chain7 _ _ _ _ _ _ _ 127 28672 4261412864 1015808 0 3968 32505856 pb pc pd p1 t6 prd p2 B1 B2 B3 B4 tl B6 B7 (by decide +kernel)
theorem or_nat (y z : Int) : ∃ x : Nat, x < 4294967296 ∧ Go.bits .or .u32 y z = (x : Int) := by
  refine ⟨(BitVec.ofInt 32 y ||| BitVec.ofInt 32 z).toNat, (BitVec.ofInt 32 y ||| BitVec.ofInt 32 z).isLt, ?_⟩
  show IntKind.u32.wrap (((BitVec.ofInt 32 y ||| BitVec.ofInt 32 z).toNat : Nat) : Int) = _
  rw [IntKind.wrap_u32]
  have := (BitVec.ofInt 32 y ||| BitVec.ofInt 32 z).isLt
  omega
theorem or_zero2 (y z : Int) : Go.bits .or .u32 (Go.bits .or .u32 y z) 0 = Go.bits .or .u32 y z := by
  obtain ⟨x, hx, e⟩ := or_nat y z
  rw [e, show (0 : Int) = ((0 : Nat) : Int) from rfl, u32_or_nat _ _ hx (by decide), Nat.or_zero]
theorem numb_72 (m : Int) (h : numb 72 m = true) : (m % 4294967296).toNat < 32 := by
  have := of_decide_eq_true (show decide (0 ≤ m ∧ m ≤ 31) = true from h)
  omega
theorem mul_c (x c : Nat) (hx : x < 4294967296) (h : x * c < 4294967296) : (((x : Int) % 4294967296) * (c : Int)) % 4294967296 = ((x * c : Nat) : Int) := by
  rw [Int.emod_eq_of_lt (a := (x : Int)) (by omega) (by omega), ← Int.natCast_mul, Int.emod_eq_of_lt (by omega) (by omega)]
theorem mul_d (x c : Nat) (h : x * c < 4294967296) : ((x : Int) * (c : Int)) % 4294967296 = ((x * c : Nat) : Int) := by
  rw [← Int.natCast_mul, Int.emod_eq_of_lt (by omega) (by omega)]
theorem em_of (m : Int) : m % 4294967296 = (((m % 4294967296).toNat : Nat) : Int) ∧ (m % 4294967296).toNat < 4294967296 := by omega
/-- Encode, of an instruction that may be. -/
theorem Encode_some {n : Nat} {a : Int} {b c d : Nat} (R : Row n a b c d) (hn : n < 45) (rd r1 r2 : Nat) (m : Int) (hrd : rd < 32) (hr1 : r1 < 32) (hr2 : r2 < 32)
    (zd : hRd a = false → rd = 0) (z1 : hR1 a = false → r1 = 0) (z2 : hR2 a = false → r2 = 0) (hm : numb a m = true) (k : Nat) (hk : 90 < k) :
    inst_Encode.f k (n : Int) (rd : Int) (r1 : Int) (r2 : Int) m = some (((encw a b c d rd r1 r2 (m % 4294967296).toNat : Nat) : Int), 0) := by
  have hr : rightv (n : Int) (rd : Int) (r1 : Int) (r2 : Int) m = true := by
    rw [right_row R hn, regv_of _ _ hrd zd, regv_of _ _ hr1 z1, regv_of _ _ hr2 z2, hm]; rfl
  have h72 : a = 72 → (m % 4294967296).toNat < 32 := fun e => by rw [e] at hm; exact numb_72 m hm
  obtain ⟨em, lm⟩ := em_of m
  generalize (m % 4294967296).toNat = m' at em lm h72 ⊢
  have s1 : (((rd : Int) % 4294967296) * 128) % 4294967296 = ((rd * 128 : Nat) : Int) := mul_c rd 128 (by omega) (by omega)
  have s2 : (((r1 : Int) % 4294967296) * 32768) % 4294967296 = ((r1 * 32768 : Nat) : Int) := mul_c r1 32768 (by omega) (by omega)
  have s3 : (((r2 : Int) % 4294967296) * 1048576) % 4294967296 = ((r2 * 1048576 : Nat) : Int) := mul_c r2 1048576 (by omega) (by omega)
  have hc := R.hc
  have hd := R.hd
  have s4 : ((c : Int) * 4096) % 4294967296 = ((c * 4096 : Nat) : Int) := mul_d c 4096 (by omega)
  have s5 : ((d : Int) * 33554432) % 4294967296 = ((d * 33554432 : Nat) : Int) := mul_d d 33554432 (by omega)
  have ne1 : ¬ ((n : Int) = 45) := by omega
  have ne2 : ¬ ((n : Int) = 46) := by omega
  have ne3 : (0 : Int) ≤ (n : Int) ∧ (n : Int) < 47 := by omega
  have ec := (enc_chain R rd r1 r2 m' hrd hr1 hr2 zd z1 z2 h72).1
  unfold inst_Encode.f
  rw [Right_eq _ _ _ _ _ k (by omega), obs, hr, if_pos rfl, if_neg ne1, if_neg ne2, if_pos ne3, Int.toNat_natCast, R.get]
  simp only
  rw [em, told_eq a m' lm k (by omega), obs, has_eq a k (by omega), obs, obs, obs, s1, s2, s3, s4, s5]
  rw [← ec]
  simp only
  congr 2
  cases h1 : hRd a
  · rw [zd h1]
    cases h2 : hR2 a
    · rw [z2 h2]; simp only [Nat.zero_mul, Int.natCast_zero, or_zero2, Bool.false_eq_true, if_false]
    · simp only [Nat.zero_mul, Int.natCast_zero, or_zero2, Bool.false_eq_true, if_false, if_true]
  · cases h2 : hR2 a
    · rw [z2 h2]; simp only [Nat.zero_mul, Int.natCast_zero, or_zero2, Bool.false_eq_true, if_false, if_true]
    · simp only [if_true]
theorem Encode_not (a0 a1 a2 a3 a4 : Int) (h : rightv a0 a1 a2 a3 a4 = false) (k : Nat) (hk : 90 < k) : inst_Encode.f k a0 a1 a2 a3 a4 = some (0, 20) := by
  unfold inst_Encode.f
  rw [Right_eq _ _ _ _ _ k (by omega), obs, h]
  rfl
theorem right_e (op : Int) (h : op = 45 ∨ op = 46) (a1 a2 a3 a4 : Int) : rightv op a1 a2 a3 a4 = true ↔ (a1 = 0 ∧ a2 = 0 ∧ a3 = 0 ∧ a4 = 0) := by
  have e : frm op = 69 := by rcases h with rfl | rfl <;> rfl
  unfold rightv
  rw [e]
  unfold regv
  simp [hRd, hR1, hR2, numb]
theorem Encode_e (op : Int) (h : op = 45 ∨ op = 46) (k : Nat) (hk : 90 < k) : inst_Encode.f k op 0 0 0 0 = some ((if op = 45 then 115 else 1048691), 0) := by
  unfold inst_Encode.f
  rw [Right_eq _ _ _ _ _ k (by omega), obs, (right_e op h 0 0 0 0).mpr ⟨rfl, rfl, rfl, rfl⟩]
  rcases h with rfl | rfl <;> rfl
theorem right_out (a0 a1 a2 a3 a4 : Int) (h : ¬ (0 ≤ a0 ∧ a0 < 47)) : rightv a0 a1 a2 a3 a4 = false := by
  unfold rightv frm
  rw [if_neg h]
  rfl
/-! ## there and back -/
theorem imm85 (w : Nat) : immv 85 w = ((w / 4096 : Nat) : Int) := rfl
theorem imm74 (w : Nat) : immv 74 w = sig (w / 2147483648 * 1048576 + w / 4096 % 256 * 4096 + w / 1048576 % 2 * 2048 + w / 2097152 % 1024 * 2) 21 := rfl
theorem imm73 (w : Nat) : immv 73 w = sig (w / 1048576) 12 := rfl
theorem imm83 (w : Nat) : immv 83 w = sig (w / 33554432 * 32 + w / 128 % 32) 12 := rfl
theorem imm66 (w : Nat) : immv 66 w = sig (w / 2147483648 * 4096 + w / 128 % 2 * 2048 + w / 33554432 % 64 * 32 + w / 256 % 16 * 2) 13 := rfl
theorem imm72 (w : Nat) : immv 72 w = ((w / 1048576 % 32 : Nat) : Int) := rfl
theorem imm82 (w : Nat) : immv 82 w = 0 := rfl
theorem sig21 (v : Nat) : sig v 21 = (v : Int) - (if v / 1048576 % 2 = 1 then 2097152 else 0) := rfl
theorem sig12 (v : Nat) : sig v 12 = (v : Int) - (if v / 2048 % 2 = 1 then 4096 else 0) := rfl
theorem sig13 (v : Nat) : sig v 13 = (v : Int) - (if v / 4096 % 2 = 1 then 8192 else 0) := rfl
theorem told85 (m : Nat) : toldv 85 m = m % 1048576 * 4096 := rfl
theorem told74 (m : Nat) : toldv 74 m = m / 1048576 % 2 * 2147483648 + m / 4096 % 256 * 4096 + m / 2048 % 2 * 1048576 + m / 2 % 1024 * 2097152 := rfl
theorem told73 (m : Nat) : toldv 73 m = m % 4096 * 1048576 := rfl
theorem told72 (m : Nat) : toldv 72 m = m % 4096 * 1048576 := rfl
theorem told83 (m : Nat) : toldv 83 m = m / 32 % 128 * 33554432 + m % 32 * 128 := rfl
theorem told66 (m : Nat) : toldv 66 m = m / 4096 % 2 * 2147483648 + m / 2048 % 2 * 128 + m / 32 % 64 * 33554432 + m / 2 % 16 * 256 := rfl
theorem told82 (m : Nat) : toldv 82 m = 0 := rfl
theorem numb85 {m : Int} (h : numb 85 m = true) : 0 ≤ m ∧ m ≤ 1048575 := of_decide_eq_true h
theorem numb74 {m : Int} (h : numb 74 m = true) : -1048576 ≤ m ∧ m ≤ 1048574 ∧ m % 2 = 0 := of_decide_eq_true h
theorem numb73 {m : Int} (h : numb 73 m = true) : -2048 ≤ m ∧ m ≤ 2047 := of_decide_eq_true h
theorem numb83 {m : Int} (h : numb 83 m = true) : -2048 ≤ m ∧ m ≤ 2047 := of_decide_eq_true h
theorem numb66 {m : Int} (h : numb 66 m = true) : -4096 ≤ m ∧ m ≤ 4094 ∧ m % 2 = 0 := of_decide_eq_true h
theorem numb72' {m : Int} (h : numb 72 m = true) : 0 ≤ m ∧ m ≤ 31 := of_decide_eq_true h
theorem numb82 {m : Int} (h : numb 82 m = true) : m = 0 := of_decide_eq_true h
/-- Plain facts of the numbers, form by form (no list, no program). -/
theorem b85 (b rd : Nat) (m : Int) (m' w : Nat) (hb : b < 128) (hrd : rd < 32) (hm : 0 ≤ m ∧ m ≤ 1048575) (e : (m' : Int) = m % 4294967296) (hw : w = b + 0 * 4096 + 0 * 33554432 + 0 * 32768 + m' % 1048576 * 4096 + rd * 128 + 0 * 1048576) :
    w % 128 = b ∧ w / 128 % 32 = rd ∧ ((w / 4096 : Nat) : Int) = m := by omega
theorem b74 (b rd t1 t2 t3 t4 w : Nat) (hb : b < 128) (hrd : rd < 32) (h1 : t1 < 2) (h2 : t2 < 256) (h3 : t3 < 2) (h4 : t4 < 1024)
    (hw : w = b + 0 * 4096 + 0 * 33554432 + 0 * 32768 + (t1 * 2147483648 + t2 * 4096 + t3 * 1048576 + t4 * 2097152) + rd * 128 + 0 * 1048576) :
    w % 128 = b ∧ w / 128 % 32 = rd ∧ w / 2147483648 = t1 ∧ w / 4096 % 256 = t2 ∧ w / 1048576 % 2 = t3 ∧ w / 2097152 % 1024 = t4 := by omega
theorem s74 (m : Int) (m' v : Nat) (hm : -1048576 ≤ m ∧ m ≤ 1048574 ∧ m % 2 = 0) (e : (m' : Int) = m % 4294967296) (hv : v = m' / 1048576 % 2 * 1048576 + m' / 4096 % 256 * 4096 + m' / 2048 % 2 * 2048 + m' / 2 % 1024 * 2) : sig v 21 = m := by
  rw [sig21]; split <;> omega
theorem b73 (b c rd r1 : Nat) (m : Int) (m' w : Nat) (hb : b < 128) (hc : c < 8) (hrd : rd < 32) (hr1 : r1 < 32) (hm : -2048 ≤ m ∧ m ≤ 2047) (e : (m' : Int) = m % 4294967296)
    (hw : w = b + c * 4096 + 0 * 33554432 + r1 * 32768 + m' % 4096 * 1048576 + rd * 128 + 0 * 1048576) :
    w % 128 = b ∧ w / 4096 % 8 = c ∧ w / 128 % 32 = rd ∧ w / 32768 % 32 = r1 ∧ w / 1048576 = m' % 4096 := by omega
theorem s73 (m : Int) (m' v : Nat) (hm : -2048 ≤ m ∧ m ≤ 2047) (e : (m' : Int) = m % 4294967296) (hv : v = m' % 4096) : sig v 12 = m := by
  rw [sig12]; split <;> omega
theorem b72 (b c d rd r1 : Nat) (m : Int) (m' w : Nat) (hb : b < 128) (hc : c < 8) (hd : d < 128) (hd' : d % 32 = 0) (hrd : rd < 32) (hr1 : r1 < 32) (hm : 0 ≤ m ∧ m ≤ 31) (e : (m' : Int) = m % 4294967296)
    (hw : w = b + c * 4096 + d * 33554432 + r1 * 32768 + m' % 4096 * 1048576 + rd * 128 + 0 * 1048576) :
    w % 128 = b ∧ w / 4096 % 8 = c ∧ w / 33554432 = d ∧ w / 128 % 32 = rd ∧ w / 32768 % 32 = r1 ∧ ((w / 1048576 % 32 : Nat) : Int) = m := by omega
theorem b83 (b c r1 r2 t1 t2 w : Nat) (hb : b < 128) (hc : c < 8) (hr1 : r1 < 32) (hr2 : r2 < 32) (h1 : t1 < 128) (h2 : t2 < 32)
    (hw : w = b + c * 4096 + 0 * 33554432 + r1 * 32768 + (t1 * 33554432 + t2 * 128) + 0 * 128 + r2 * 1048576) :
    w % 128 = b ∧ w / 4096 % 8 = c ∧ w / 32768 % 32 = r1 ∧ w / 1048576 % 32 = r2 ∧ w / 33554432 = t1 ∧ w / 128 % 32 = t2 := by omega
theorem b66 (b c r1 r2 t1 t2 t3 t4 w : Nat) (hb : b < 128) (hc : c < 8) (hr1 : r1 < 32) (hr2 : r2 < 32) (h1 : t1 < 2) (h2 : t2 < 2) (h3 : t3 < 64) (h4 : t4 < 16)
    (hw : w = b + c * 4096 + 0 * 33554432 + r1 * 32768 + (t1 * 2147483648 + t2 * 128 + t3 * 33554432 + t4 * 256) + 0 * 128 + r2 * 1048576) :
    w % 128 = b ∧ w / 4096 % 8 = c ∧ w / 32768 % 32 = r1 ∧ w / 1048576 % 32 = r2 ∧ w / 2147483648 = t1 ∧ w / 128 % 2 = t2 ∧ w / 33554432 % 64 = t3 ∧ w / 256 % 16 = t4 := by omega
theorem s66 (m : Int) (m' v : Nat) (hm : -4096 ≤ m ∧ m ≤ 4094 ∧ m % 2 = 0) (e : (m' : Int) = m % 4294967296) (hv : v = m' / 4096 % 2 * 4096 + m' / 2048 % 2 * 2048 + m' / 32 % 64 * 32 + m' / 2 % 16 * 2) : sig v 13 = m := by
  rw [sig13]; split <;> omega
theorem b82 (b c d rd r1 r2 w : Nat) (hb : b < 128) (hc : c < 8) (hd : d < 128) (hrd : rd < 32) (hr1 : r1 < 32) (hr2 : r2 < 32) (hw : w = b + c * 4096 + d * 33554432 + r1 * 32768 + 0 + rd * 128 + r2 * 1048576) :
    w % 128 = b ∧ w / 4096 % 8 = c ∧ w / 33554432 = d ∧ w / 128 % 32 = rd ∧ w / 32768 % 32 = r1 ∧ w / 1048576 % 32 = r2 := by omega
theorem s83 (m : Int) (m' v : Nat) (hm : -2048 ≤ m ∧ m ≤ 2047) (e : (m' : Int) = m % 4294967296) (hv : v = m' / 32 % 128 * 32 + m' % 32) : sig v 12 = m := by
  rw [sig12]; split <;> omega
theorem back_row {n : Nat} {a : Int} {b c d : Nat} (R : Row n a b c d) (h72 : a = 72 → d % 32 = 0) (rd r1 r2 : Nat) (m : Int) (hrd : rd < 32) (hr1 : r1 < 32) (hr2 : r2 < 32)
    (zd : hRd a = false → rd = 0) (z1 : hR1 a = false → r1 = 0) (z2 : hR2 a = false → r2 = 0) (hm : numb a m = true) :
    tk n (encw a b c d rd r1 r2 (m % 4294967296).toNat) ∧ decx n (encw a b c d rd r1 r2 (m % 4294967296).toNat) = ((n : Int), (rd : Int), (r1 : Int), (r2 : Int), m, 0) := by
  obtain ⟨em, lm⟩ := em_of m
  have em := em.symm
  generalize (m % 4294967296).toNat = m' at em lm ⊢
  generalize hw : encw a b c d rd r1 r2 m' = w
  have hw := hw.symm
  unfold encw at hw
  unfold tk decx tellsP
  rw [R.get]
  simp only
  have hb := R.hb
  have hc := R.hc
  have hd := R.hd
  have up := R.up
  have mid := R.mid
  rcases R.form with rfl | rfl | rfl | rfl | rfl | rfl | rfl
  · obtain ⟨rfl, rfl⟩ := up (Or.inl rfl)
    obtain rfl := z1 rfl
    obtain rfl := z2 rfl
    rw [told85] at hw
    obtain ⟨x1, x2, x3⟩ := b85 b rd m m' w hb hrd (numb85 hm) em hw
    refine ⟨Or.inl ⟨Or.inl rfl, by rw [x1]⟩, ?_⟩
    rw [imm85, x3, x2]; rfl
  · obtain ⟨rfl, rfl⟩ := up (Or.inr rfl)
    obtain rfl := z1 rfl
    obtain rfl := z2 rfl
    rw [told74] at hw
    obtain ⟨x1, x2, x3, x4, x5, x6⟩ := b74 b rd _ _ _ _ w hb hrd (Nat.mod_lt _ (by decide)) (Nat.mod_lt _ (by decide)) (Nat.mod_lt _ (by decide)) (Nat.mod_lt _ (by decide)) hw
    refine ⟨Or.inl ⟨Or.inr rfl, by rw [x1]⟩, ?_⟩
    rw [imm74, x3, x4, x5, x6, x2, s74 m m' _ (numb74 hm) em rfl]; rfl
  · obtain rfl := mid (Or.inl rfl)
    obtain rfl := z2 rfl
    rw [told73] at hw
    obtain ⟨x1, x2, x3, x4, x5⟩ := b73 b c rd r1 m m' w hb hc hrd hr1 (numb73 hm) em hw
    refine ⟨Or.inr (Or.inr ⟨Or.inl rfl, by rw [x1], by rw [x2]⟩), ?_⟩
    rw [imm73, x5, x3, x4, s73 m m' _ (numb73 hm) em rfl]; rfl
  · obtain rfl := mid (Or.inr (Or.inr rfl))
    obtain rfl := zd rfl
    rw [told66] at hw
    obtain ⟨x1, x2, x3, x4, x5, x6, x7, x8⟩ := b66 b c r1 r2 _ _ _ _ w hb hc hr1 hr2 (Nat.mod_lt _ (by decide)) (Nat.mod_lt _ (by decide)) (Nat.mod_lt _ (by decide)) (Nat.mod_lt _ (by decide)) hw
    refine ⟨Or.inr (Or.inr ⟨Or.inr (Or.inr rfl), by rw [x1], by rw [x2]⟩), ?_⟩
    rw [imm66, x5, x6, x7, x8, x3, x4, s66 m m' _ (numb66 hm) em rfl]; rfl
  · obtain rfl := mid (Or.inr (Or.inl rfl))
    obtain rfl := zd rfl
    rw [told83] at hw
    obtain ⟨x1, x2, x3, x4, x5, x6⟩ := b83 b c r1 r2 _ _ w hb hc hr1 hr2 (Nat.mod_lt _ (by decide)) (Nat.mod_lt _ (by decide)) hw
    refine ⟨Or.inr (Or.inr ⟨Or.inr (Or.inl rfl), by rw [x1], by rw [x2]⟩), ?_⟩
    rw [imm83, x5, x6, x3, x4, s83 m m' _ (numb83 hm) em rfl]; rfl
  · obtain rfl := z2 rfl
    rw [told72] at hw
    obtain ⟨x1, x2, x3, x4, x5, x6⟩ := b72 b c d rd r1 m m' w hb hc hd (h72 rfl) hrd hr1 (numb72' hm) em hw
    refine ⟨Or.inr (Or.inl ⟨Or.inr rfl, by rw [x1], by rw [x2], by rw [x3]⟩), ?_⟩
    rw [imm72, x4, x5, x6]; rfl
  · obtain rfl := numb82 hm
    rw [told82] at hw
    obtain ⟨x1, x2, x3, x4, x5, x6⟩ := b82 b c d rd r1 r2 w hb hc hd hrd hr1 hr2 hw
    refine ⟨Or.inr (Or.inl ⟨Or.inl rfl, by rw [x1], by rw [x2], by rw [x3]⟩), ?_⟩
    rw [imm82, x4, x5, x6]; rfl
theorem d72 (n : Nat) (hn : n < 45) (a : Int) (b c d : Nat) (R : Row n a b c d) (h : a = 72) : d % 32 = 0 := by
  have hg := R.get
  rcases rows_ok ⟨n, hn⟩ with ⟨_, _, _, _, _, _, e⟩ | ⟨_, _, _, _, _, _, e⟩
  · simp only at e; rw [hg] at e; simpa using e
  · simp only at e; rw [hg] at e; simp only at e; omega
/-! ## forth and back -/
theorem w74 (b w t1 t2 t3 t4 rd : Nat) (hw : w < 4294967296) (hb : w % 128 = b) (h0 : rd = w / 128 % 32) (h1 : t1 = w / 2147483648) (h2 : t2 = w / 4096 % 256) (h3 : t3 = w / 1048576 % 2) (h4 : t4 = w / 2097152 % 1024) :
    b + 0 * 4096 + 0 * 33554432 + 0 * 32768 + (t1 * 2147483648 + t2 * 4096 + t3 * 1048576 + t4 * 2097152) + rd * 128 + 0 * 1048576 = w ∧ t1 < 2 ∧ t2 < 256 ∧ t3 < 2 ∧ t4 < 1024 := by omega
theorem m74 (t1 t2 t3 t4 v : Nat) (h1 : t1 < 2) (h2 : t2 < 256) (h3 : t3 < 2) (h4 : t4 < 1024) (hv : v = t1 * 1048576 + t2 * 4096 + t3 * 2048 + t4 * 2) : numb 74 (sig v 21) = true ∧
    ∀ m' : Nat, (m' : Int) = sig v 21 % 4294967296 → m' / 1048576 % 2 = t1 ∧ m' / 4096 % 256 = t2 ∧ m' / 2048 % 2 = t3 ∧ m' / 2 % 1024 = t4 := by
  rw [sig21]
  have hs : ((v : Int) - (if v / 1048576 % 2 = 1 then 2097152 else 0)) = (v : Int) - 2097152 * t1 := by split <;> omega
  rw [hs]
  refine ⟨decide_eq_true (by omega), fun m' e => ?_⟩
  have e2 : (m' : Int) = (v : Int) - 2097152 * t1 + 4294967296 * t1 := by omega
  clear e hs
  subst hv
  refine ⟨?_, ?_, ?_, ?_⟩ <;> omega
theorem m73 (v : Nat) (hv : v < 4096) : numb 73 (sig v 12) = true ∧ numb 83 (sig v 12) = true ∧ ∀ m' : Nat, (m' : Int) = sig v 12 % 4294967296 → m' % 4096 = v := by
  rw [sig12]
  refine ⟨decide_eq_true (by split <;> omega), decide_eq_true (by split <;> omega), fun m' e => ?_⟩
  revert e; split <;> intro e <;> omega
theorem w73 (b c w rd r1 v : Nat) (hw : w < 4294967296) (hb : w % 128 = b) (hc : w / 4096 % 8 = c) (h0 : rd = w / 128 % 32) (h1 : r1 = w / 32768 % 32) (hv : v = w / 1048576) :
    b + c * 4096 + 0 * 33554432 + r1 * 32768 + v * 1048576 + rd * 128 + 0 * 1048576 = w ∧ v < 4096 := by omega
theorem w83 (b c w r1 r2 t1 t2 : Nat) (hw : w < 4294967296) (hb : w % 128 = b) (hc : w / 4096 % 8 = c) (h1 : r1 = w / 32768 % 32) (h2 : r2 = w / 1048576 % 32) (h3 : t1 = w / 33554432) (h4 : t2 = w / 128 % 32) :
    b + c * 4096 + 0 * 33554432 + r1 * 32768 + (t1 * 33554432 + t2 * 128) + 0 * 128 + r2 * 1048576 = w ∧ t1 < 128 ∧ t2 < 32 := by omega
theorem w66 (b c w r1 r2 t1 t2 t3 t4 : Nat) (hw : w < 4294967296) (hb : w % 128 = b) (hc : w / 4096 % 8 = c) (h1 : r1 = w / 32768 % 32) (h2 : r2 = w / 1048576 % 32) (h3 : t1 = w / 2147483648) (h4 : t2 = w / 128 % 2) (h5 : t3 = w / 33554432 % 64) (h6 : t4 = w / 256 % 16) :
    b + c * 4096 + 0 * 33554432 + r1 * 32768 + (t1 * 2147483648 + t2 * 128 + t3 * 33554432 + t4 * 256) + 0 * 128 + r2 * 1048576 = w ∧ t1 < 2 ∧ t2 < 2 ∧ t3 < 64 ∧ t4 < 16 := by omega
theorem m66 (t1 t2 t3 t4 v : Nat) (h1 : t1 < 2) (h2 : t2 < 2) (h3 : t3 < 64) (h4 : t4 < 16) (hv : v = t1 * 4096 + t2 * 2048 + t3 * 32 + t4 * 2) : numb 66 (sig v 13) = true ∧
    ∀ m' : Nat, (m' : Int) = sig v 13 % 4294967296 → m' / 4096 % 2 = t1 ∧ m' / 2048 % 2 = t2 ∧ m' / 32 % 64 = t3 ∧ m' / 2 % 16 = t4 := by
  rw [sig13]
  have hs : ((v : Int) - (if v / 4096 % 2 = 1 then 8192 else 0)) = (v : Int) - 8192 * t1 := by split <;> omega
  rw [hs]
  refine ⟨decide_eq_true (by omega), fun m' e => ?_⟩
  have e2 : (m' : Int) = (v : Int) - 8192 * t1 + 4294967296 * t1 := by omega
  clear e hs
  subst hv
  refine ⟨?_, ?_, ?_, ?_⟩ <;> omega
theorem w72 (b c d w rd r1 : Nat) (hw : w < 4294967296) (hb : w % 128 = b) (hc : w / 4096 % 8 = c) (hd : w / 33554432 = d) (h0 : rd = w / 128 % 32) (h1 : r1 = w / 32768 % 32) :
    b + c * 4096 + d * 33554432 + r1 * 32768 + w / 1048576 % 32 % 4096 * 1048576 + rd * 128 + 0 * 1048576 = w := by omega
theorem w82 (b c d w rd r1 r2 : Nat) (hw : w < 4294967296) (hb : w % 128 = b) (hc : w / 4096 % 8 = c) (hd : w / 33554432 = d) (h0 : rd = w / 128 % 32) (h1 : r1 = w / 32768 % 32) (h2 : r2 = w / 1048576 % 32) :
    b + c * 4096 + d * 33554432 + r1 * 32768 + 0 + rd * 128 + r2 * 1048576 = w := by omega
theorem w85 (b w rd m' : Nat) (hw : w < 4294967296) (hb : w % 128 = b) (h0 : rd = w / 128 % 32) (e : m' = w / 4096) :
    b + 0 * 4096 + 0 * 33554432 + 0 * 32768 + m' % 1048576 * 4096 + rd * 128 + 0 * 1048576 = w := by omega
theorem nat_emod (x : Nat) (h : x < 4294967296) : ((x : Int) % 4294967296).toNat = x := by omega
theorem forth_row {n : Nat} {a : Int} {b c d : Nat} (R : Row n a b c d) (w : Nat) (hw : w < 4294967296) (h : tk n w) :
    numb a (immv a w) = true ∧ encw a b c d (if hRd a = true then w / 128 % 32 else 0) (if hR1 a = true then w / 32768 % 32 else 0) (if hR2 a = true then w / 1048576 % 32 else 0) (immv a w % 4294967296).toNat = w := by
  unfold tk tellsP at h
  rw [R.get] at h
  simp only at h
  have up := R.up
  have mid := R.mid
  rcases R.form with rfl | rfl | rfl | rfl | rfl | rfl | rfl
  · obtain ⟨rfl, rfl⟩ := up (Or.inl rfl)
    have hb : w % 128 = b := by omega
    rw [imm85, nat_emod _ (by omega)]
    refine ⟨decide_eq_true (show 0 ≤ ((w / 4096 : Nat) : Int) ∧ ((w / 4096 : Nat) : Int) ≤ 1048575 by omega), ?_⟩
    exact w85 b w _ _ hw hb rfl rfl
  · obtain ⟨rfl, rfl⟩ := up (Or.inr rfl)
    have hb : w % 128 = b := by omega
    obtain ⟨x0, x1, x2, x3, x4⟩ := w74 b w _ _ _ _ _ hw hb rfl rfl rfl rfl rfl
    obtain ⟨y1, y2⟩ := m74 _ _ _ _ _ x1 x2 x3 x4 rfl
    rw [imm74]
    obtain ⟨z1, z2, z3, z4⟩ := y2 _ (em_of _).1.symm
    refine ⟨y1, ?_⟩
    unfold encw
    rw [told74, z1, z2, z3, z4]
    exact x0
  · obtain rfl := mid (Or.inl rfl)
    have hb : w % 128 = b := by omega
    have hc : w / 4096 % 8 = c := by omega
    obtain ⟨x0, x1⟩ := w73 b c w _ _ _ hw hb hc rfl rfl rfl
    obtain ⟨y1, _, y2⟩ := m73 _ x1
    rw [imm73]
    have z1 := y2 _ (em_of _).1.symm
    refine ⟨y1, ?_⟩
    unfold encw
    rw [told73, z1]
    exact x0
  · obtain rfl := mid (Or.inr (Or.inr rfl))
    have hb : w % 128 = b := by omega
    have hc : w / 4096 % 8 = c := by omega
    obtain ⟨x0, x1, x2, x3, x4⟩ := w66 b c w _ _ _ _ _ _ hw hb hc rfl rfl rfl rfl rfl rfl
    obtain ⟨y1, y2⟩ := m66 _ _ _ _ _ x1 x2 x3 x4 rfl
    rw [imm66]
    obtain ⟨z1, z2, z3, z4⟩ := y2 _ (em_of _).1.symm
    refine ⟨y1, ?_⟩
    unfold encw
    rw [told66, z1, z2, z3, z4]
    exact x0
  · obtain rfl := mid (Or.inr (Or.inl rfl))
    have hb : w % 128 = b := by omega
    have hc : w / 4096 % 8 = c := by omega
    obtain ⟨x0, x1, x2⟩ := w83 b c w _ _ _ _ hw hb hc rfl rfl rfl rfl
    have x3 : w / 33554432 * 32 + w / 128 % 32 < 4096 := by omega
    obtain ⟨_, y1, y2⟩ := m73 _ x3
    rw [imm83]
    have z1 := y2 _ (em_of _).1.symm
    refine ⟨y1, ?_⟩
    unfold encw
    have z2 (m v1 v2 : Nat) (h1 : v1 < 128) (h2 : v2 < 32) (h : m % 4096 = v1 * 32 + v2) : m / 32 % 128 = v1 ∧ m % 32 = v2 := by omega
    obtain ⟨z3, z4⟩ := z2 _ _ _ x1 x2 z1
    rw [told83, z3, z4]
    exact x0
  · have hb : w % 128 = b := by omega
    have hc : w / 4096 % 8 = c := by omega
    have hd : w / 33554432 = d := by omega
    rw [imm72, nat_emod _ (by omega)]
    refine ⟨decide_eq_true (show 0 ≤ ((w / 1048576 % 32 : Nat) : Int) ∧ ((w / 1048576 % 32 : Nat) : Int) ≤ 31 by omega), ?_⟩
    exact w72 b c d w _ _ hw hb hc hd rfl rfl
  · have hb : w % 128 = b := by omega
    have hc : w / 4096 % 8 = c := by omega
    have hd : w / 33554432 = d := by omega
    refine ⟨rfl, ?_⟩
    exact w82 b c d w _ _ _ hw hb hc hd rfl rfl rfl
/-- The word of what a word is. -/
theorem code_one (i j w v : Nat) (hi : i < 47) (hj : j < 47) (hw : w < 4294967296) (hv : v < 4294967296) (h1 : tk i w) (h2 : tk j v) (h : decx i w = decx j v) : w = v := by
  have hij : i = j := by
    have := congrArg Prod.fst h
    simp only [decx] at this
    omega
  subst hij
  obtain ⟨a, b, c, d, R⟩ := row_at i (tk_not i w hi h1).2
  have e1 := (forth_row R w hw h1).2
  have e2 := (forth_row R v hv h2).2
  unfold decx at h
  rw [R.get] at h
  simp only [Prod.mk.injEq, true_and, and_true] at h
  obtain ⟨g1, g2, g3, g4⟩ := h
  have k (p : Bool) (x y : Nat) (g : (if p = true then (x : Int) else 0) = (if p = true then (y : Int) else 0)) : (if p = true then x else 0) = (if p = true then y else 0) := by
    cases p
    · rfl
    · simp only [if_true] at g ⊢; omega
  rw [← e1, ← e2, k _ _ _ g1, k _ _ _ g2, k _ _ _ g3, g4]
/-- What a word is. -/
theorem Decode_cases (w : Nat) (hw : w < 4294967296) : (∃ j, j < 47 ∧ tk j w ∧ ∀ k, 150 < k → inst_Decode.f k (w : Int) = some (decx j w)) ∨
    (w = 115 ∧ ∀ k, 150 < k → inst_Decode.f k (w : Int) = some (45, 0, 0, 0, 0, 0)) ∨ (w = 1048691 ∧ ∀ k, 150 < k → inst_Decode.f k (w : Int) = some (46, 0, 0, 0, 0, 0)) ∨
    (w ≠ 115 ∧ w ≠ 1048691 ∧ (∀ j, j < 47 → ¬ tk j w) ∧ ∀ k, 150 < k → inst_Decode.f k (w : Int) = some (0, 0, 0, 0, 0, 20)) := by
  by_cases h : ∃ j, j < 47 ∧ tk j w
  · obtain ⟨j, h1, h2⟩ := h
    exact Or.inl ⟨j, h1, h2, fun k hk => Decode_some j w hw h1 h2 k hk⟩
  have h' : ∀ j, j < 47 → ¬ tk j w := fun j h1 h2 => h ⟨j, h1, h2⟩
  by_cases e1 : w = 115
  · subst e1; exact Or.inr (Or.inl ⟨rfl, fun k _ => Decode_115 k⟩)
  by_cases e2 : w = 1048691
  · subst e2; exact Or.inr (Or.inr (Or.inl ⟨rfl, fun k _ => Decode_ebreak k⟩))
  exact Or.inr (Or.inr (Or.inr ⟨e1, e2, h', fun k hk => Decode_none w hw e1 e2 h' k hk⟩))
theorem dec_inj (w v : Nat) (hw : w < 4294967296) (hv : v < 4294967296) (x y : Int × Int × Int × Int × Int × Int) (hx : inst_Decode.f 200 (w : Int) = some x) (hy : inst_Decode.f 200 (v : Int) = some y)
    (h0 : x.2.2.2.2.2 = 0) (h1 : x = y) : w = v := by
  subst h1
  rcases Decode_cases w hw with ⟨i, i1, i2, i3⟩ | ⟨i1, i3⟩ | ⟨i1, i3⟩ | ⟨_, _, _, i3⟩
  · have e1 := Option.some.inj ((i3 200 (by decide)).symm.trans hx)
    have l1 := (tk_not i w i1 i2).2
    rcases Decode_cases v hv with ⟨j, j1, j2, j3⟩ | ⟨j1, j3⟩ | ⟨j1, j3⟩ | ⟨_, _, _, j3⟩
    · have e2 := Option.some.inj ((j3 200 (by decide)).symm.trans hy)
      exact code_one i j w v i1 j1 hw hv i2 j2 (e1.trans e2.symm)
    · have e2 := Option.some.inj ((j3 200 (by decide)).symm.trans hy)
      have := congrArg Prod.fst (e1.trans e2.symm)
      simp only [decx] at this
      omega
    · have e2 := Option.some.inj ((j3 200 (by decide)).symm.trans hy)
      have := congrArg Prod.fst (e1.trans e2.symm)
      simp only [decx] at this
      omega
    · have e2 := Option.some.inj ((j3 200 (by decide)).symm.trans hy)
      rw [← e2] at h0
      exact absurd h0 (by decide)
  · have e1 := Option.some.inj ((i3 200 (by decide)).symm.trans hx)
    rcases Decode_cases v hv with ⟨j, j1, j2, j3⟩ | ⟨j1, j3⟩ | ⟨j1, j3⟩ | ⟨_, _, _, j3⟩
    · have e2 := Option.some.inj ((j3 200 (by decide)).symm.trans hy)
      have l1 := (tk_not j v j1 j2).2
      have := congrArg Prod.fst (e1.trans e2.symm)
      simp only [decx] at this
      omega
    · omega
    · have e2 := Option.some.inj ((j3 200 (by decide)).symm.trans hy)
      have := congrArg Prod.fst (e1.trans e2.symm)
      simp only at this
      omega
    · have e2 := Option.some.inj ((j3 200 (by decide)).symm.trans hy)
      rw [← e2] at h0
      exact absurd h0 (by decide)
  · have e1 := Option.some.inj ((i3 200 (by decide)).symm.trans hx)
    rcases Decode_cases v hv with ⟨j, j1, j2, j3⟩ | ⟨j1, j3⟩ | ⟨j1, j3⟩ | ⟨_, _, _, j3⟩
    · have e2 := Option.some.inj ((j3 200 (by decide)).symm.trans hy)
      have l1 := (tk_not j v j1 j2).2
      have := congrArg Prod.fst (e1.trans e2.symm)
      simp only [decx] at this
      omega
    · have e2 := Option.some.inj ((j3 200 (by decide)).symm.trans hy)
      have := congrArg Prod.fst (e1.trans e2.symm)
      simp only at this
      omega
    · omega
    · have e2 := Option.some.inj ((j3 200 (by decide)).symm.trans hy)
      rw [← e2] at h0
      exact absurd h0 (by decide)
  · have e1 := Option.some.inj ((i3 200 (by decide)).symm.trans hx)
    rw [← e1] at h0
    exact absurd h0 (by decide)
theorem Decode_tot (w : Nat) (hw : w < 4294967296) : ∃ x, inst_Decode.f 200 (w : Int) = some x ∧ (x.2.2.2.2.2 = 0 ∨ x = (0, 0, 0, 0, 0, 20)) := by
  rcases Decode_cases w hw with ⟨j, j1, j2, j3⟩ | ⟨j1, j3⟩ | ⟨j1, j3⟩ | ⟨_, _, _, j3⟩
  · exact ⟨_, j3 200 (by decide), Or.inl rfl⟩
  · exact ⟨_, j3 200 (by decide), Or.inl rfl⟩
  · exact ⟨_, j3 200 (by decide), Or.inl rfl⟩
  · exact ⟨_, j3 200 (by decide), Or.inr rfl⟩
/-! ## Encode, and back -/
theorem Enc_cases (a0 a1 a2 a3 a4 : Int) : (rightv a0 a1 a2 a3 a4 = true ∧ ∃ w : Nat, w < 4294967296 ∧ ∀ k, 150 < k → inst_Encode.f k a0 a1 a2 a3 a4 = some ((w : Int), 0) ∧ inst_Decode.f k (w : Int) = some (a0, a1, a2, a3, a4, 0)) ∨
    (rightv a0 a1 a2 a3 a4 = false ∧ ∀ k, 150 < k → inst_Encode.f k a0 a1 a2 a3 a4 = some (0, 20)) := by
  cases hr : rightv a0 a1 a2 a3 a4 with
  | false => exact Or.inr ⟨rfl, fun k hk => Encode_not _ _ _ _ _ hr k (by omega)⟩
  | true =>
    refine Or.inl ⟨rfl, ?_⟩
    have hin : 0 ≤ a0 ∧ a0 < 47 := by
      apply Classical.byContradiction
      intro h
      rw [right_out a0 a1 a2 a3 a4 h] at hr
      cases hr
    by_cases h45 : a0 < 45
    · obtain ⟨n, rfl⟩ := Int.eq_ofNat_of_zero_le hin.1
      have hn : n < 45 := by omega
      obtain ⟨a, b, c, d, R⟩ := row_at n hn
      rw [right_row R hn] at hr
      simp only [Bool.and_eq_true] at hr
      obtain ⟨e1, e2, e3, e4⟩ := hr
      obtain ⟨rd, rfl, hrd, zd⟩ := regv_nat _ _ e1
      obtain ⟨r1, rfl, hr1, z1⟩ := regv_nat _ _ e2
      obtain ⟨r2, rfl, hr2, z2⟩ := regv_nat _ _ e3
      have h72 : a = 72 → (a4 % 4294967296).toNat < 32 := fun e => by rw [e] at e4; exact numb_72 a4 e4
      have hl := (enc_chain R rd r1 r2 (a4 % 4294967296).toNat hrd hr1 hr2 zd z1 z2 h72).2
      obtain ⟨t1, t2⟩ := back_row R (fun e => d72 n hn a b c d R e) rd r1 r2 a4 hrd hr1 hr2 zd z1 z2 e4
      refine ⟨_, hl, fun k hk => ⟨Encode_some R hn rd r1 r2 a4 hrd hr1 hr2 zd z1 z2 e4 k (by omega), ?_⟩⟩
      rw [Decode_some n _ hl (by omega) t1 k hk, t2]
    · rcases (show a0 = 45 ∨ a0 = 46 by omega) with rfl | rfl
      · obtain ⟨rfl, rfl, rfl, rfl⟩ := (right_e 45 (Or.inl rfl) a1 a2 a3 a4).mp hr
        exact ⟨115, by decide, fun k hk => ⟨Encode_e 45 (Or.inl rfl) k (by omega), Decode_115 k⟩⟩
      · obtain ⟨rfl, rfl, rfl, rfl⟩ := (right_e 46 (Or.inr rfl) a1 a2 a3 a4).mp hr
        exact ⟨1048691, by decide, fun k hk => ⟨Encode_e 46 (Or.inr rfl) k (by omega), Decode_ebreak k⟩⟩
theorem cast_if (p : Bool) (x : Nat) : (if p = true then (x : Int) else 0) = (((if p = true then x else 0) : Nat) : Int) := by cases p <;> rfl
theorem if_lt (p : Bool) (x : Nat) (h : x < 32) : (if p = true then x else 0) < 32 := by cases p <;> simp [h]
theorem if_zero (p : Bool) (x : Nat) (h : p = false) : (if p = true then x else 0) = 0 := by rw [h]; rfl
/-- What a word is has that word. -/
theorem Dec_enc (w : Nat) (hw : w < 4294967296) : (∃ a0 a1 a2 a3 a4, (∀ k, 150 < k → inst_Decode.f k (w : Int) = some (a0, a1, a2, a3, a4, 0)) ∧ (∀ k, 150 < k → inst_Encode.f k a0 a1 a2 a3 a4 = some ((w : Int), 0)) ∧ rightv a0 a1 a2 a3 a4 = true) ∨
    (∀ k, 150 < k → inst_Decode.f k (w : Int) = some (0, 0, 0, 0, 0, 20)) := by
  rcases Decode_cases w hw with ⟨j, j1, j2, j3⟩ | ⟨j1, j3⟩ | ⟨j1, j3⟩ | ⟨_, _, _, j3⟩
  · left
    have hn := (tk_not j w j1 j2).2
    obtain ⟨a, b, c, d, R⟩ := row_at j hn
    obtain ⟨f1, f2⟩ := forth_row R w hw j2
    refine ⟨_, _, _, _, _, j3, ?_⟩
    rw [R.get]
    simp only
    rw [cast_if, cast_if, cast_if]
    have l1 := if_lt (hRd a) (w / 128 % 32) (Nat.mod_lt _ (by decide))
    have l2 := if_lt (hR1 a) (w / 32768 % 32) (Nat.mod_lt _ (by decide))
    have l3 := if_lt (hR2 a) (w / 1048576 % 32) (Nat.mod_lt _ (by decide))
    have z1 := if_zero (hRd a) (w / 128 % 32)
    have z2 := if_zero (hR1 a) (w / 32768 % 32)
    have z3 := if_zero (hR2 a) (w / 1048576 % 32)
    constructor
    · intro k hk
      rw [Encode_some R hn _ _ _ _ l1 l2 l3 z1 z2 z3 f1 k (by omega), f2]
    · rw [right_row R hn, regv_of _ _ l1 z1, regv_of _ _ l2 z2, regv_of _ _ l3 z3, f1]; rfl
  · subst j1
    left
    exact ⟨45, 0, 0, 0, 0, j3, fun k hk => Encode_e 45 (Or.inl rfl) k (by omega), (right_e 45 (Or.inl rfl) 0 0 0 0).mpr ⟨rfl, rfl, rfl, rfl⟩⟩
  · subst j1
    left
    exact ⟨46, 0, 0, 0, 0, j3, fun k hk => Encode_e 46 (Or.inr rfl) k (by omega), (right_e 46 (Or.inr rfl) 0 0 0 0).mpr ⟨rfl, rfl, rfl, rfl⟩⟩
  · exact Or.inr j3
/-! ## the reference: Form, Right -/
theorem rForm_in : ∀ n : Fin 47, whetstoneref02_Form.f (n.val : Int) = some (kGet n.val).1 := by decide +kernel
theorem rForm_eq (op : Int) : whetstoneref02_Form.f op = some (frm op) := by
  by_cases h : 0 ≤ op ∧ op < 47
  · obtain ⟨n, rfl⟩ := Int.eq_ofNat_of_zero_le h.1
    rw [rForm_in ⟨n, by omega⟩]
    unfold frm
    rw [if_pos h, Int.toNat_natCast]
  · rw [rForm_out op h]; unfold frm; rw [if_neg h]
theorem rin_all : ∀ f ∈ [0, 85, 74, 73, 66, 83, 72, 82, 69], whetstoneref02_in.f 200 f (⟨#[85, 74, 73, 72, 82]⟩ : ByteArray) = some (hRd f) ∧ whetstoneref02_in.f 200 f (⟨#[73, 72, 66, 83, 82]⟩ : ByteArray) = some (hR1 f) ∧ whetstoneref02_in.f 200 f (⟨#[66, 83, 82]⟩ : ByteArray) = some (hR2 f) := by decide +kernel
theorem rspan_all : ∀ f ∈ [0, 85, 74, 73, 66, 83, 72, 82, 69], whetstoneref02_span.f 200 f = some (if f = 85 then (0, 1048575, 1) else if f = 74 then (-1048576, 1048574, 2) else if f = 73 ∨ f = 83 then (-2048, 2047, 1) else if f = 66 then (-4096, 4094, 2) else if f = 72 then (0, 31, 1) else (0, 0, 1)) := by decide +kernel
theorem rreg_eq (n : Int) (b : Bool) : whetstoneref02_reg.f n b = some (regv b n) := by
  unfold whetstoneref02_reg.f regv
  by_cases h : n = 0
  · simp [h]
  · rw [if_neg h]
    cases b
    · simp [h]
    · rw [if_pos rfl]
      by_cases h1 : n > 0
      · rw [if_pos h1]; congr 1; rw [decide_eq_decide]; simp [h]; omega
      · rw [if_neg h1, decide_eq_false (by omega)]
theorem rtmod1 (m : Int) : (Int.tmod m 1 == 0) = true := by rw [beq_iff_eq]; exact Int.tmod_one m
theorem rRight_eq (a0 a1 a2 a3 a4 : Int) : whetstoneref02_Right.f 200 a0 a1 a2 a3 a4 = some (rightv a0 a1 a2 a3 a4) := by
  unfold whetstoneref02_Right.f rightv
  rw [rForm_eq, obs]
  have hm : frm a0 ∈ [0, 85, 74, 73, 66, 83, 72, 82, 69] := by
    rcases frm_cases a0 with ⟨_, h⟩ | ⟨_, h | h | h | h | h | h | h | h⟩ <;> rw [h] <;> decide
  obtain ⟨i1, i2, i3⟩ := rin_all _ hm
  rw [rspan_all _ hm, obs, i1, i2, i3]
  simp only [obs, rreg_eq]
  rcases frm_cases a0 with ⟨_, h⟩ | ⟨_, h | h | h | h | h | h | h | h⟩
  · rw [h]; rfl
  all_goals
    rw [h]
    generalize regv _ a1 = p1
    generalize regv _ a2 = p2
    generalize regv _ a3 = p3
    cases p1 <;> cases p2 <;> cases p3 <;> simp [numb, rtmod1, tmod2]
  all_goals first
    | ((repeat' split) <;> simp_all; done)
    | (by_cases h0 : a4 = 0 <;> simp_all <;> omega)
    | ((repeat' split) <;> simp_all <;> omega)
end Go.Proofs.Ytegpiempnjbfjaa.Q
