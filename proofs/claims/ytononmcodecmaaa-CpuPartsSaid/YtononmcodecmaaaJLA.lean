import Derived.Test.YtononmcodecmaaaJQx10
import Derived.Test.YtononmcodecmaaaJQx11
import Derived.Test.YtononmcodecmaaaJQx12
import Derived.Test.YtononmcodecmaaaJQx13
import Derived.Test.YtononmcodecmaaaJQx14
import Derived.Test.YtononmcodecmaaaJQx15
import Derived.Test.YtononmcodecmaaaJQx16
import Derived.Test.YtononmcodecmaaaJQx18
import Derived.Test.YtononmcodecmaaaJQx19
import Derived.Test.YtononmcodecmaaaJQx20
import Derived.Test.YtononmcodecmaaaJQx21
import Derived.Test.YtononmcodecmaaaJQx22
import Derived.Test.YtononmcodecmaaaJQx23
import Derived.Test.YtononmcodecmaaaJQx24
import Derived.Test.YtononmcodecmaaaJQx3
import Derived.Test.YtononmcodecmaaaJQx4
import Derived.Test.YtononmcodecmaaaJQx5
import Derived.Test.YtononmcodecmaaaJQx6
import Derived.Test.YtononmcodecmaaaJQx7
import Derived.Test.YtononmcodecmaaaJQx8
import Derived.Test.YtononmcodecmaaaJQx9
import Derived.Laws.BitsAllLaws
import Derived.Laws.BitsLemmas
/- Layers 1 and 2, plain: what the printed functions come to. -/
namespace Go.Proofs.Ytononmcodecmaaa.Q
open Go.RowKit Go.Proofs.YtononmcodecmaaaW.PrintWords Go.Proofs.YtononmcodecmaaaW.PrintLast Go.Proofs.YtononmcodecmaaaW.PrintMore
set_option linter.unusedVariables false
set_option linter.unusedSimpArgs false
theorem obs {α β : Type} (a : α) (f : α → Option β) : (some a).bind f = f a := by
 have h : ∀ o : Option α, o = some a → o.bind f = f a := by intro o ho; subst ho; rfl
 exact h _ rfl
theorem bit_lt (x i : Nat) : x / 2 ^ i % 2 < 2 := Nat.mod_lt _ (by omega)
theorem bit_of (x i : Nat) : x / 2 ^ i % 2 = (x.testBit i).toNat := by
 rw [Nat.testBit_eq_decide_div_mod_eq]
 have := bit_lt x i
 by_cases h : x / 2 ^ i % 2 = 1
 ·simp [h]
 ·simp [h]; omega
theorem nat_of_bits {x y : Nat} (h : ∀ i, x / 2 ^ i % 2 = y / 2 ^ i % 2) : x = y := by
 apply Nat.eq_of_testBit_eq
 intro i
 have := h i
 rw [bit_of, bit_of] at this
 revert this
 cases x.testBit i <;> cases y.testBit i <;> simp
theorem bit_and (a b i : Nat) : (a &&& b) / 2 ^ i % 2 = (a / 2 ^ i % 2) * (b / 2 ^ i % 2) := by
 rw [bit_of, bit_of, bit_of, Nat.testBit_and]
 cases a.testBit i <;> cases b.testBit i <;> rfl
theorem bit_or (a b i : Nat) : (a ||| b) / 2 ^ i % 2 = (a / 2 ^ i % 2) + (b / 2 ^ i % 2) - (a / 2 ^ i % 2) * (b / 2 ^ i % 2) := by
 rw [bit_of, bit_of, bit_of, Nat.testBit_or]
 cases a.testBit i <;> cases b.testBit i <;> rfl
theorem bit_xor (a b i : Nat) : (a ^^^ b) / 2 ^ i % 2 = ((a / 2 ^ i % 2) + (b / 2 ^ i % 2)) % 2 := by
 rw [bit_of, bit_of, bit_of, Nat.testBit_xor]
 cases a.testBit i <;> cases b.testBit i <;> rfl
theorem bit_shl (a s i : Nat) : (a * 2 ^ s) / 2 ^ i % 2 = if i < s then 0 else a / 2 ^ (i - s) % 2 := by
 rw [bit_of, ← Nat.shiftLeft_eq, Nat.testBit_shiftLeft]
 by_cases h : i < s
 ·simp [h, Nat.not_le.2 h]
 ·simp only [h, if_false]; rw [bit_of]; simp [Nat.not_lt.1 h]
theorem bit_big (a i n : Nat) (h : a < 2 ^ n) (hi : n ≤ i) : a / 2 ^ i % 2 = 0 := by
 rw [Nat.div_eq_of_lt (Nat.lt_of_lt_of_le h (Nat.pow_le_pow_right (by omega) hi))]
def bl (f : Nat → Nat) (n : Nat) : List Int := (List.range 32).map fun j => if j < n then ((f j : Nat) : Int) else 0
def May (p n : Int) : Prop := 0 ≤ p ∧ p < 32 ∧ 1 ≤ n ∧ n ≤ 32 - p
instance (p n : Int) : Decidable (May p n) := by unfold May; infer_instance
theorem may_eq (p n : Int) : word_may.f p n = some (decide (May p n)) := by
 unfold word_may.f wrap64
 by_cases h : May p n
 ·rw [decide_eq_true h]
  unfold May at h
  rw [if_pos (by omega), if_pos (by omega), if_pos (by omega), decide_eq_true (by omega)]
 ·rw [decide_eq_false h]
  unfold May at h
  repeat' split
  ·rw [decide_eq_false (by omega)]
  all_goals rfl
theorem may_nat {p n : Nat} (hp : p < 32) (h1 : 1 ≤ n) (hn : n ≤ 32 - p) : May (p : Int) (n : Int) := by unfold May; omega
theorem two_pow_le (j n : Nat) (h : j ≤ n) : 2 ^ j ≤ 2 ^ n := Nat.pow_le_pow_right (by omega) h
theorem or_one (x : Nat) (h : x % 2 = 0) : x ||| 1 = x + 1 := nat_join 1 x 1 h (by omega)
theorem mask_loop (n : Nat) (hn : n ≤ 32) (d : Nat) : ∀ k j : Nat, j + d = n → d < k →
  word_mask.l0 k ((2 ^ j - 1 : Nat) : Int) (n : Int) (j : Int) = some ((2 ^ n - 1 : Nat) : Int) := by
 induction d with
 | zero =>
  intro k j hj hk
  obtain ⟨k, rfl⟩ : ∃ m, k = m + 1 := ⟨k - 1, by omega⟩
  obtain rfl : j = n := by omega
  simp only [word_mask.l0]; rw [if_neg (by omega)]
 | succ d ih =>
  intro k j hj hk
  obtain ⟨k, rfl⟩ : ∃ m, k = m + 1 := ⟨k - 1, by omega⟩
  simp only [word_mask.l0]; rw [if_pos (by omega)]
  have h1 := two_pow_le j 31 (by omega)
  have h0 : 0 < 2 ^ j := Nat.pow_pos (by omega)
  have hs : 2 ^ (j + 1) = 2 * 2 ^ j := by rw [Nat.pow_succ, Nat.mul_comm]
  generalize 2 ^ j = p at h1 h0 hs ⊢
  have e1 : (((p - 1 : Nat) : Int) * 2) % 4294967296 = ((2 * p - 2 : Nat) : Int) := by omega
  rw [e1, show (1 : Int) = ((1 : Nat) : Int) from rfl, u32_or_nat _ _ (by omega) (by omega), or_one _ (by omega)]
  have e2 : wrap64 ((j : Int) + ((1 : Nat) : Int)) = ((j + 1 : Nat) : Int) := by unfold wrap64; omega
  rw [e2, show 2 * p - 2 + 1 = 2 ^ (j + 1) - 1 by omega]
  exact ih k (j + 1) (by omega) (by omega)
theorem mask_eq (n : Nat) (hn : n ≤ 32) (k : Nat) (hk : n < k) : word_mask.f k (n : Int) = some ((2 ^ n - 1 : Nat) : Int) := by
 have h := mask_loop n hn n k 0 (by omega) hk
 exact h
theorem shr_nat (w s : Nat) (hs : s ≤ 32) : shr .u32 (w : Int) (s : Int) = ((w / 2 ^ s : Nat) : Int) := by
 unfold shr
 rw [Int.toNat_natCast, show IntKind.u32.bits = 32 from rfl, Nat.min_eq_left (by omega)]
 simp
theorem shl_nat (w s : Nat) (hs : s ≤ 32) : shl .u32 (w : Int) (s : Int) = ((w * 2 ^ s % 4294967296 : Nat) : Int) := by
 unfold shl
 rw [Int.toNat_natCast, show IntKind.u32.bits = 32 from rfl, Nat.min_eq_left (by omega), IntKind.wrap_u32']
 simp
theorem Field_may (w p n : Nat) (hw : w < 4294967296) (hp : p < 32) (h1 : 1 ≤ n) (hn : n ≤ 32 - p) (k : Nat) (hk : 32 < k) :
  word_Field.f k (w : Int) (p : Int) (n : Int) = some ((w / 2 ^ p % 2 ^ n : Nat) : Int) := by
 unfold word_Field.f
 rw [may_eq, decide_eq_true (may_nat hp h1 hn)]
 simp only [obs, if_true]
 rw [if_pos (by omega), mask_eq n (by omega) k (by omega)]
 simp only [obs]
 have h2 := two_pow_le n 32 (by omega)
 have h3 : w / 2 ^ p ≤ w := Nat.div_le_self _ _
 have h4 : 0 < 2 ^ n := Nat.pow_pos (by omega)
 rw [shr_nat w p (by omega), u32_and_nat _ _ (by omega) (by omega), Nat.and_two_pow_sub_one_eq_mod]
theorem high_bit (w n : Nat) (h : 1 ≤ n) : w % 2 ^ n / 2 ^ (n - 1) = w / 2 ^ (n - 1) % 2 := by
 have e : 2 ^ n = 2 ^ (n - 1) * 2 := by rw [← Nat.pow_succ]; congr 1; omega
 have := Nat.mod_mul_right_div_self w (2 ^ (n - 1)) 2
 rw [← e] at this
 exact this
def sgn (w : Nat) (n : Int) : Nat :=
 if 1 ≤ n ∧ n ≤ 31 then (if w / 2 ^ (n.toNat - 1) % 2 = 1 then w % 2 ^ n.toNat + (4294967296 - 2 ^ n.toNat) else w % 2 ^ n.toNat) else w
theorem sgn_lt (w : Nat) (hw : w < 4294967296) (n : Int) : sgn w n < 4294967296 := by
 unfold sgn
 split
 ·rename_i h
  have h1 := two_pow_le n.toNat 31 (by omega)
  have h2 : w % 2 ^ n.toNat < 2 ^ n.toNat := Nat.mod_lt _ (Nat.pow_pos (by omega))
  generalize 2 ^ n.toNat = p at *
  split <;> omega
 ·exact hw
theorem add_or (x y n : Nat) (hx : x < 2 ^ n) (hy : y % 2 ^ n = 0) : x + y = y ||| x := by
 rw [nat_join n y x hy hx, Nat.add_comm]
theorem not_nat (x : Nat) (hx : x < 4294967296) : Go.bits .xor .u32 4294967295 (x : Int) = ((4294967295 - x : Nat) : Int) := by
 rw [show (4294967295 : Int) = ((4294967295 : Nat) : Int) from rfl, u32_xor_nat _ _ (by omega) hx]
 congr 1
 apply nat_of_bits
 intro i
 rw [bit_xor]
 by_cases h : i < 32
 ·have e1 : 4294967295 / 2 ^ i % 2 = 1 := by
   have := Nat.testBit_two_pow_sub_one 32 i
   rw [decide_eq_true h] at this
   rw [bit_of]; exact congrArg Bool.toNat this
  have e2 : (4294967295 - x) / 2 ^ i % 2 = 1 - x / 2 ^ i % 2 := by
   have := Nat.testBit_two_pow_sub_succ (x := x) (n := 32) hx i
   rw [decide_eq_true h, Bool.true_and] at this
   rw [bit_of, bit_of, show 4294967295 - x = 2 ^ 32 - (x + 1) by omega, this]
   cases x.testBit i <;> rfl
  rw [e1, e2]
  have := bit_lt x i
  omega
 ·rw [bit_big _ _ 32 (by omega) (by omega), bit_big x _ 32 hx (by omega), bit_big _ _ 32 (by omega) (by omega)]
def put (w : Nat) (p n : Int) (v : Nat) : Nat := if May p n then (w &&& (4294967295 - (2 ^ n.toNat - 1) * 2 ^ p.toNat)) ||| (v % 2 ^ n.toNat) * 2 ^ p.toNat else w
theorem u64_id (x : Int) (h0 : 0 ≤ x) (h1 : x < 18446744073709551616) : IntKind.u64.wrap x = x := by rw [IntKind.wrap_u64]; omega
theorem w32_mod (x : Int) : wrap32 x % 4294967296 = x % 4294967296 := by unfold wrap32; omega
theorem and31 (b : Nat) (hb : b < 4294967296) : Go.bits .and .u32 (b : Int) 31 = ((b % 32 : Nat) : Int) := by
 rw [show (31 : Int) = ((31 : Nat) : Int) from rfl, u32_and_nat _ _ hb (by omega), nat_mask5]
def sra (a s : Nat) : Nat := if a < 2147483648 then a / 2 ^ s else a / 2 ^ s + (4294967296 - 2 ^ (32 - s))
theorem sra_eq (a s : Nat) (ha : a < 4294967296) (hs : s < 32) : (shr .i32 (wrap32 (a : Int)) (s : Int)) % 4294967296 = ((sra a s : Nat) : Int) := by
 unfold shr sra
 rw [Int.toNat_natCast, show IntKind.i32.bits = 32 from rfl, Nat.min_eq_left (by omega)]
 have h0 : 0 < 2 ^ s := Nat.pow_pos (by omega)
 have e1 : 2 ^ (32 - s) * 2 ^ s = 4294967296 := by rw [← Nat.pow_add, show 32 - s + s = 32 by omega]
 have h2 : a / 2 ^ s ≤ a := Nat.div_le_self _ _
 have hq : (2 : Int) ^ s = ((2 ^ s : Nat) : Int) := (Int.natCast_pow 2 s).symm
 rw [hq]
 split
 ·rename_i h
  rw [show wrap32 (a : Int) = (a : Int) by unfold wrap32; omega, ← Int.natCast_ediv]
  generalize a / 2 ^ s = t at *
  omega
 ·rename_i h
  have h4 : a / 2 ^ s < 2 ^ (32 - s) := by
   apply Nat.div_lt_of_lt_mul; rw [Nat.mul_comm, e1]; exact ha
  have h6 : 2 ≤ 2 ^ (32 - s) := two_pow_le 1 (32 - s) (by omega)
  have h7 : 2 ^ (32 - s) ≤ 4294967296 := two_pow_le (32 - s) 32 (by omega)
  generalize 2 ^ (32 - s) = q at *
  have e5 : wrap32 (a : Int) = (a : Int) + (-(q : Int)) * ((2 ^ s : Nat) : Int) := by
   rw [Int.neg_mul, ← Int.natCast_mul, e1]
   unfold wrap32; omega
  rw [e5, Int.add_mul_ediv_right _ _ (by omega), ← Int.natCast_ediv]
  generalize a / 2 ^ s = t at *
  clear e5 e1 hq
  omega
theorem sra_lt (a s : Nat) (ha : a < 4294967296) (hs : s < 32) : sra a s < 4294967296 := by
 have := sra_eq a s ha hs
 omega
theorem tdiv_nat (a b : Nat) : Int.tdiv (a : Int) (b : Int) = ((a / b : Nat) : Int) := rfl
theorem tmod_nat (a b : Nat) : Int.tmod (a : Int) (b : Int) = ((a % b : Nat) : Int) := rfl
theorem wrap32_ne (b : Nat) (hb : b < 4294967296) (h : b ≠ 0) : wrap32 (b : Int) ≠ 0 := by unfold wrap32; omega
theorem div_signed (a b : Nat) (ha : a < 4294967296) (hb : b < 4294967296) (h0 : b ≠ 0) (k : Nat) (hk : 4 < k) :
  word_divided.f k 41 (a : Int) (b : Int) = some (Int.tdiv (wrap32 (a : Int)) (wrap32 (b : Int)) % 4294967296) := by
 obtain ⟨k, rfl⟩ : ∃ m, k = m + 4 := ⟨k - 4, by omega⟩
 unfold word_divided.f
 rw [if_neg (by decide), show ((41 : Int) == 44) = false from rfl]
 simp only [word_divided.j0]
 rw [if_neg (by omega)]
 simp only [word_divided.j1]
 rw [if_neg (by decide), if_neg (by omega), if_neg (by decide), if_neg (by decide)]
 have main : word_divided.j2 (k + 2) (a : Int) (b : Int) false false = some (Int.tdiv (wrap32 (a : Int)) (wrap32 (b : Int)) % 4294967296) := by
  simp only [word_divided.j2, word_divided.j3]
  rw [if_neg (by decide)]
  by_cases h1 : a = 2147483648
  ·subst h1
   rw [if_pos (by decide)]
   by_cases h2 : b = 4294967295
   ·subst h2
    rw [if_pos (by decide)]
    refine congrArg some ?_
    decide +kernel
   ·have e : (((b : Int)) == 4294967295) = false := by rw [beq_eq_false_iff_ne]; omega
    rw [e, if_neg (by decide), if_neg (by decide), if_neg (wrap32_ne b hb h0), w32_mod]
  ·rw [if_neg (by omega), if_neg (by decide), if_neg (by decide), if_neg (wrap32_ne b hb h0), w32_mod]
 split
 ·split
  ·exact main
  ·exact main
 ·exact main
theorem rem_signed (a b : Nat) (ha : a < 4294967296) (hb : b < 4294967296) (h0 : b ≠ 0) (k : Nat) (hk : 4 < k) :
  word_divided.f k 43 (a : Int) (b : Int) = some (Int.tmod (wrap32 (a : Int)) (wrap32 (b : Int)) % 4294967296) := by
 obtain ⟨k, rfl⟩ : ∃ m, k = m + 4 := ⟨k - 4, by omega⟩
 unfold word_divided.f
 rw [if_pos rfl]
 simp only [word_divided.j0]
 rw [if_neg (by omega)]
 simp only [word_divided.j1]
 rw [if_neg (by decide), if_neg (by omega), if_neg (by decide), if_neg (by decide)]
 have main : ¬ (a = 2147483648 ∧ b = 4294967295) → word_divided.j2 (k + 2) (a : Int) (b : Int) true false = some (Int.tmod (wrap32 (a : Int)) (wrap32 (b : Int)) % 4294967296) := by
  intro hn
  simp only [word_divided.j2, word_divided.j3]
  rw [if_neg (by decide)]
  by_cases h1 : a = 2147483648
  ·subst h1
   rw [if_pos (by decide)]
   have e : (((b : Int)) == 4294967295) = false := by rw [beq_eq_false_iff_ne]; omega
   rw [e, if_neg (by decide), if_true, if_neg (wrap32_ne b hb h0)]
  ·rw [if_neg (by omega), if_neg (by decide), if_true, if_neg (wrap32_ne b hb h0)]
 split
 ·split
  ·rename_i h1 h2
   obtain rfl : a = 2147483648 := by omega
   obtain rfl : b = 4294967295 := by omega
   simp only [word_divided.j2]
   rw [if_true]
   refine congrArg some ?_
   decide +kernel
  ·exact main (by omega)
 ·exact main (by omega)
theorem div_unsigned (a b : Nat) (h0 : b ≠ 0) (k : Nat) (hk : 4 < k) : word_divided.f k 42 (a : Int) (b : Int) = some ((a / b : Nat) % 4294967296 : Int) := by
 obtain ⟨k, rfl⟩ : ∃ m, k = m + 4 := ⟨k - 4, by omega⟩
 unfold word_divided.f
 rw [if_neg (by decide), show ((42 : Int) == 44) = false from rfl]
 simp only [word_divided.j0]
 rw [if_neg (by omega)]
 simp only [word_divided.j1]
 rw [if_neg (by decide), if_neg (by omega), if_true, tdiv_nat]
theorem rem_unsigned (a b : Nat) (h0 : b ≠ 0) (k : Nat) (hk : 4 < k) : word_divided.f k 44 (a : Int) (b : Int) = some ((a % b : Nat) : Int) := by
 obtain ⟨k, rfl⟩ : ∃ m, k = m + 4 := ⟨k - 4, by omega⟩
 unfold word_divided.f
 rw [if_neg (by decide), show ((44 : Int) == 44) = true from rfl]
 simp only [word_divided.j0]
 rw [if_neg (by omega)]
 simp only [word_divided.j1]
 rw [if_neg (by decide), if_neg (by omega), if_neg (by decide), if_true, tmod_nat]
theorem div_zero (op : Int) (a : Nat) (hop : op = 41 ∨ op = 42 ∨ op = 43 ∨ op = 44) (k : Nat) (hk : 4 < k) :
  word_divided.f k op (a : Int) 0 = some (if op = 43 ∨ op = 44 then (a : Int) else 4294967295) := by
 obtain ⟨k, rfl⟩ : ∃ m, k = m + 4 := ⟨k - 4, by omega⟩
 rcases hop with rfl | rfl | rfl | rfl
 all_goals (unfold word_divided.f; simp [word_divided.j0, word_divided.j1])
def doW (op : Int) (a b : Nat) : Int × Int :=
 if op = 27 then (((a + b : Nat) : Int) % 4294967296, 0) else
 if op = 28 then (((a : Int) - (b : Int)) % 4294967296, 0) else
 if op = 36 then (((a &&& b : Nat) : Int), 0) else
 if op = 35 then (((a ||| b : Nat) : Int), 0) else
 if op = 32 then (((a ^^^ b : Nat) : Int), 0) else
 if op = 29 then (((a * 2 ^ (b % 32) % 4294967296 : Nat) : Int), 0) else
 if op = 33 then (((a / 2 ^ (b % 32) : Nat) : Int), 0) else
 if op = 34 then (((sra a (b % 32) : Nat) : Int), 0) else
 if op = 30 then ((if wrap32 (a : Int) < wrap32 (b : Int) then 1 else 0), 0) else
 if op = 31 then ((if a < b then 1 else 0), 0) else
 if op = 37 then (((a * b : Nat) : Int) % 4294967296, 0) else
 if op = 38 ∨ op = 39 ∨ op = 40 then ((word_high.f op (a : Int) (b : Int)).getD 0, 0) else
 if op = 41 ∨ op = 42 ∨ op = 43 ∨ op = 44 then ((word_divided.f 5 op (a : Int) (b : Int)).getD 0, 0) else (0, 1)
theorem high_some (op a b : Int) : ∃ r, word_high.f op a b = some r := by
 refine Option.isSome_iff_exists.1 ?_
 unfold word_high.f
 repeat' split
 all_goals rfl
theorem divided_some (op : Int) (a b : Nat) (hb : b < 4294967296) (ha : a < 4294967296) (hop : op = 41 ∨ op = 42 ∨ op = 43 ∨ op = 44) : ∃ r, ∀ k, 4 < k → word_divided.f k op (a : Int) (b : Int) = some r := by
 by_cases h0 : b = 0
 ·subst h0; exact ⟨_, fun k hk => div_zero op a hop k hk⟩
 ·rcases hop with rfl | rfl | rfl | rfl
  ·exact ⟨_, fun k hk => div_signed a b ha hb h0 k hk⟩
  ·exact ⟨_, fun k hk => div_unsigned a b h0 k hk⟩
  ·exact ⟨_, fun k hk => rem_signed a b ha hb h0 k hk⟩
  ·exact ⟨_, fun k hk => rem_unsigned a b h0 k hk⟩
theorem Do_eq (op : Int) (a b : Nat) (ha : a < 4294967296) (hb : b < 4294967296) (k : Nat) (hk : 8 < k) : word_Do.f k op (a : Int) (b : Int) = some (doW op a b) := by
 obtain ⟨k, rfl⟩ : ∃ m, k = m + 1 := ⟨k - 1, by omega⟩
 unfold doW
 by_cases h27 : op = 27
 ·subst h27; simp [word_Do.f]
 by_cases h28 : op = 28
 ·subst h28; simp [word_Do.f]
 by_cases h36 : op = 36
 ·subst h36; simp [word_Do.f, u32_and_nat a b ha hb]
 by_cases h35 : op = 35
 ·subst h35; simp [word_Do.f, u32_or_nat a b ha hb]
 by_cases h32 : op = 32
 ·subst h32; simp [word_Do.f, u32_xor_nat a b ha hb]
 by_cases h29 : op = 29
 ·subst h29
  have e := shl_nat a (b % 32) (by omega)
  show word_Do.f (k + 1) 29 (a : Int) (b : Int) = some (((a * 2 ^ (b % 32) % 4294967296 : Nat) : Int), 0)
  unfold word_Do.f
  rw [if_neg h27, if_neg h28, if_neg h36, if_neg h35, if_neg h32, if_pos rfl, and31 b hb, if_pos (by omega), e]
 by_cases h33 : op = 33
 ·subst h33
  have e := shr_nat a (b % 32) (by omega)
  show word_Do.f (k + 1) 33 (a : Int) (b : Int) = some (((a / 2 ^ (b % 32) : Nat) : Int), 0)
  unfold word_Do.f
  rw [if_neg h27, if_neg h28, if_neg h36, if_neg h35, if_neg h32, if_neg h29, if_pos rfl, and31 b hb, if_pos (by omega), e]
 by_cases h34 : op = 34
 ·subst h34
  have e := sra_eq a (b % 32) ha (Nat.mod_lt _ (by omega))
  show word_Do.f (k + 1) 34 (a : Int) (b : Int) = some (((sra a (b % 32) : Nat) : Int), 0)
  unfold word_Do.f
  rw [if_neg h27, if_neg h28, if_neg h36, if_neg h35, if_neg h32, if_neg h29, if_neg h33, if_pos rfl, and31 b hb, if_pos (by omega), e]
 by_cases h30 : op = 30
 ·subst h30
  simp only [word_Do.f, word_flag.f, decide_eq_true_eq]
  by_cases h : wrap32 (a : Int) < wrap32 (b : Int) <;> simp [h]
 by_cases h31 : op = 31
 ·subst h31
  simp only [word_Do.f, word_flag.f, decide_eq_true_eq]
  by_cases h : a < b <;> simp [h]
 by_cases h37 : op = 37
 ·subst h37; simp [word_Do.f]
 rw [if_neg h27, if_neg h28, if_neg h36, if_neg h35, if_neg h32, if_neg h29, if_neg h33, if_neg h34, if_neg h30, if_neg h31, if_neg h37]
 unfold word_Do.f
 rw [if_neg h27, if_neg h28, if_neg h36, if_neg h35, if_neg h32, if_neg h29, if_neg h33, if_neg h34, if_neg h30, if_neg h31, if_neg h37]
 by_cases hh : op = 38 ∨ op = 39 ∨ op = 40
 ·rw [if_pos hh]
  obtain ⟨r, hr⟩ := high_some op (a : Int) (b : Int)
  have e : ∀ t : Bool, t = true → word_Do.j0 (k + 1) op (a : Int) (b : Int) op t = some (r, 0) := by
   intro t ht
   simp only [word_Do.j0]
   rw [if_pos ht, hr]; rfl
  rw [hr]
  rcases hh with rfl | rfl | rfl
  ·rw [if_pos rfl]; exact e _ rfl
  ·rw [if_neg (by decide), if_neg (by decide)]; exact e _ rfl
  ·rw [if_neg (by decide), if_pos rfl]; exact e _ rfl
 ·rw [if_neg hh, if_neg (by omega), if_neg (by omega)]
  have e : (op == 39) = false := by rw [beq_eq_false_iff_ne]; omega
  rw [e]
  simp only [word_Do.j0]
  rw [if_neg (by decide)]
  by_cases hd : op = 41 ∨ op = 42 ∨ op = 43 ∨ op = 44
  ·rw [if_pos hd]
   obtain ⟨r, hr⟩ := divided_some op a b hb ha hd
   rw [hr 5 (by omega), hr k (by omega)]
   rcases hd with rfl | rfl | rfl | rfl <;> rfl
  ·rw [if_neg hd, if_neg (by omega), if_neg (by omega), if_neg (by omega), if_neg (by omega)]
theorem Sign_eq (w : Nat) (hw : w < 4294967296) (n : Int) (k : Nat) (hk : 80 < k) : word_Sign.f k (w : Int) n = some ((sgn w n : Nat) : Int) := by
 obtain ⟨k, rfl⟩ : ∃ m, k = m + 1 := ⟨k - 1, by omega⟩
 unfold word_Sign.f
 by_cases h : 1 ≤ n ∧ n ≤ 31
 ·rw [if_neg (by omega), decide_eq_false (by omega)]
  simp only [word_Sign.j0]
  unfold sgn
  rw [if_neg (by decide), if_pos h]
  obtain ⟨m, rfl⟩ := Int.eq_ofNat_of_zero_le (a := n) (by omega)
  have hp := two_pow_le m 31 (by omega)
  have h0 : 0 < 2 ^ m := Nat.pow_pos (by omega)
  have hlt : w % 2 ^ m < 2 ^ m := Nat.mod_lt _ h0
  have e1 : wrap64 ((m : Int) - 1) = ((m - 1 : Nat) : Int) := by unfold wrap64; omega
  rw [mask_eq m (by omega) k (by omega), obs, u32_and_nat _ _ hw (by omega), Nat.and_two_pow_sub_one_eq_mod, e1, if_pos (by omega), shr_nat _ _ (by omega), high_bit w m (by omega), Int.toNat_natCast]
  by_cases hb : w / 2 ^ (m - 1) % 2 = 1
  ·rw [if_pos (by omega), if_pos hb, obs, not_nat _ (by omega), u32_or_nat _ _ (by omega) (by omega)]
   have e2 : 4294967296 - 2 ^ m = (2 ^ (32 - m) - 1) * 2 ^ m := by
    rw [Nat.sub_mul, ← Nat.pow_add, Nat.one_mul]; congr 1; rw [show 32 - m + m = 32 by omega]
   rw [show 4294967295 - (2 ^ m - 1) = 4294967296 - 2 ^ m by omega, Nat.or_comm, ← add_or _ _ m hlt (by rw [e2]; exact Nat.mul_mod_left _ _)]
  ·rw [if_neg (by omega), if_neg hb]
 ·unfold sgn
  rw [if_neg h]
  by_cases h3 : n < 1
  ·rw [if_pos h3]; simp only [word_Sign.j0, if_true]
  ·rw [if_neg h3, decide_eq_true (by omega)]; simp only [word_Sign.j0, if_true]
theorem and_add_or (n : Nat) : ∀ a b : Nat, a < 2 ^ n → b < 2 ^ n → (a &&& b) + (a ||| b) = a + b ∧ (a ^^^ b) + (a &&& b) = (a ||| b) := by
  induction n with
  | zero => intro a b ha hb; obtain rfl : a = 0 := by omega
            obtain rfl : b = 0 := by omega
            exact ⟨rfl, rfl⟩
  | succ n ih =>
    intro a b ha hb
    rw [Nat.pow_succ] at ha hb
    obtain ⟨h1, h2⟩ := ih (a / 2) (b / 2) (by omega) (by omega)
    have d1 : (a &&& b) / 2 = a / 2 &&& b / 2 := Nat.and_div_two
    have d2 : (a ||| b) / 2 = a / 2 ||| b / 2 := Nat.or_div_two
    have d3 : (a ^^^ b) / 2 = a / 2 ^^^ b / 2 := Nat.xor_div_two
    have m1 := bit_and a b 0
    have m2 := bit_or a b 0
    have m3 := bit_xor a b 0
    simp only [Nat.pow_zero, Nat.div_one] at m1 m2 m3
    have h01 : a % 2 = 0 ∨ a % 2 = 1 := by omega
    have h02 : b % 2 = 0 ∨ b % 2 = 1 := by omega
    rcases h01 with h | h <;> rcases h02 with h' | h' <;> rw [h, h'] at m1 m2 m3 <;> constructor <;> omega
theorem fld0 (x n : Nat) (hx : x < 4294967296) (hn1 : 1 ≤ n) (hn2 : n ≤ 32) (k : Nat) (hk : 80 < k) : word_Field.f k (x : Int) 0 (n : Int) = some ((x % 2 ^ n : Nat) : Int) := by
 have := Field_may x 0 n hx (by omega) hn1 (by omega) k (by omega)
 rw [Nat.pow_zero, Nat.div_one] at this
 exact this
theorem whole (t : Nat) (ht : t < 18446744073709551616) : Go.bits .or .u64 (IntKind.u64.wrap ((IntKind.u64.wrap (((t / 4294967296 : Nat) : Int))) * 4294967296)) (IntKind.u64.wrap (((t % 4294967296 : Nat) : Int))) = (t : Int) := by
 have h1 : IntKind.u64.wrap (((t / 4294967296 : Nat) : Int)) = ((t / 4294967296 : Nat) : Int) := u64_id _ (by omega) (by omega)
 have h2 : IntKind.u64.wrap (((t / 4294967296 : Nat) : Int) * 4294967296) = ((t / 4294967296 * 4294967296 : Nat) : Int) := by rw [u64_id _ (by omega) (by omega)]; omega
 have h3 : IntKind.u64.wrap (((t % 4294967296 : Nat) : Int)) = ((t % 4294967296 : Nat) : Int) := u64_id _ (by omega) (by omega)
 rw [h1, h2, h3, u64_or_nat _ _ (by omega) (by omega), nat_join 32 _ _ (Nat.mul_mod_left _ _) (Nat.mod_lt _ (by decide))]
 omega
theorem wrap64_lit (n : Int) (h : -9223372036854775808 ≤ n) (h2 : n ≤ 9223372036854775807) : wrap64 n = n := by unfold wrap64; omega
def frm (op : Int) : Int := if 0 ≤ op ∧ op < 47 then (kGet op.toNat).1 else 0
theorem Form_eq (op : Int) : inst_Form.f op = some (frm op) := rfl
def hRd (f : Int) : Bool := decide (f = 85 ∨ f = 74 ∨ f = 73 ∨ f = 72 ∨ f = 82)
def hR1 (f : Int) : Bool := decide (f = 73 ∨ f = 72 ∨ f = 66 ∨ f = 83 ∨ f = 82)
def hR2 (f : Int) : Bool := decide (f = 66 ∨ f = 83 ∨ f = 82)
theorem has_eq (f : Int) (k : Nat) (hk : 4 ≤ k) : inst_has.f k f = some (hRd f, hR1 f, hR2 f) := by
 obtain ⟨k, rfl⟩ : ∃ m, k = m + 4 := ⟨k - 4, by omega⟩
 unfold hRd hR1 hR2 inst_has.f
 by_cases h1 : f = 85
 ·subst h1; rfl
 by_cases h2 : f = 74
 ·subst h2; rfl
 by_cases h3 : f = 73
 ·subst h3; rfl
 by_cases h4 : f = 72
 ·subst h4; rfl
 by_cases h5 : f = 66
 ·subst h5; rfl
 by_cases h6 : f = 83
 ·subst h6; rfl
 by_cases h7 : f = 82
 ·subst h7; rfl
 rw [if_neg h1, show (f == 74) = false from beq_eq_false_iff_ne.mpr h2]
 simp only [inst_has.j0, inst_has.j1, inst_has.j2]
 rw [if_neg (by decide), if_neg h3, show (f == 72) = false from beq_eq_false_iff_ne.mpr h4, if_neg (by decide), if_neg h5, show (f == 83) = false from beq_eq_false_iff_ne.mpr h6, if_neg (by decide), if_neg h7]
 simp [h1, h2, h3, h4, h5, h6, h7]
def numb (f m : Int) : Bool :=
 if f = 85 then decide (0 ≤ m ∧ m ≤ 1048575) else if f = 74 then decide (-1048576 ≤ m ∧ m ≤ 1048574 ∧ m % 2 = 0)
 else if f = 73 ∨ f = 83 then decide (-2048 ≤ m ∧ m ≤ 2047) else if f = 66 then decide (-4096 ≤ m ∧ m ≤ 4094 ∧ m % 2 = 0)
 else if f = 72 then decide (0 ≤ m ∧ m ≤ 31) else decide (m = 0)
theorem between_eq (a b c : Int) : inst_between.f a b c = some (decide (b ≤ a ∧ a ≤ c)) := by
 unfold inst_between.f
 by_cases h : a ≥ b
 ·rw [if_pos h]; congr 1; rw [decide_eq_decide]; omega
 ·rw [if_neg h, decide_eq_false (by omega)]
theorem tmod2 (m : Int) : (Int.tmod m 2 == 0) = decide (m % 2 = 0) := by
 have h : (Int.tmod m 2 = 0) ↔ (m % 2 = 0) := by
  rw [← Int.dvd_iff_tmod_eq_zero, Int.dvd_iff_emod_eq_zero]
 by_cases e : m % 2 = 0
 ·rw [decide_eq_true e, beq_iff_eq.mpr (h.mpr e)]
 ·rw [decide_eq_false e]; exact beq_eq_false_iff_ne.mpr (fun q => e (h.mp q))
theorem ite_and (p q : Prop) [Decidable p] [Decidable q] : (if decide p = true then some (decide q) else some false) = some (decide (p ∧ q)) := by
 by_cases h : p
 ·simp [h]
 ·simp [h]
theorem number_eq (f m : Int) (k : Nat) (hk : 1 ≤ k) : inst_number.f k f m = some (numb f m) := by
 obtain ⟨k, rfl⟩ : ∃ m, k = m + 1 := ⟨k - 1, by omega⟩
 unfold numb inst_number.f
 by_cases h1 : f = 85
 ·rw [if_pos h1, if_pos h1, between_eq, obs]
 rw [if_neg h1, if_neg h1]
 by_cases h2 : f = 74
 ·rw [if_pos h2, if_pos h2, between_eq, obs, tmod2, ite_and]; congr 1; rw [decide_eq_decide]; omega
 rw [if_neg h2, if_neg h2]
 simp only [inst_number.j0, between_eq, obs, tmod2, ite_and]
 by_cases h3 : f = 73
 ·subst h3; rfl
 by_cases h4 : f = 83
 ·subst h4; rfl
 rw [if_neg h3, show (f == 83) = false from beq_eq_false_iff_ne.mpr h4, if_neg (by decide), if_neg (show ¬ (f = 73 ∨ f = 83) by omega)]
 by_cases h5 : f = 66
 ·rw [if_pos h5, if_pos h5]; congr 1; rw [decide_eq_decide]; omega
 rw [if_neg h5, if_neg h5]
 by_cases h6 : f = 72
 ·rw [if_pos h6, if_pos h6]
 rw [if_neg h6, if_neg h6]
 rfl
def regv (b : Bool) (n : Int) : Bool := decide ((b = true ∧ 0 ≤ n ∧ n ≤ 31) ∨ n = 0)
theorem register_eq (b : Bool) (n : Int) : inst_register.f b n = some (regv b n) := by
 unfold inst_register.f regv
 cases b
 ·rw [if_neg (by decide)]; congr 1; by_cases h : n = 0 <;> simp [h]
 ·rw [if_pos rfl, between_eq, obs]
  by_cases h : 0 ≤ n ∧ n ≤ 31
  ·rw [if_pos (decide_eq_true h), decide_eq_true (Or.inl ⟨rfl, h⟩)]
  ·rw [if_neg (by rw [decide_eq_false h]; decide)]; congr 1
   by_cases h0 : n = 0
   ·omega
   ·rw [show (n == 0) = false from beq_eq_false_iff_ne.mpr h0, decide_eq_false (by omega)]
def rightv (a0 a1 a2 a3 a4 : Int) : Bool := decide (frm a0 ≠ 0) && (regv (hRd (frm a0)) a1 && (regv (hR1 (frm a0)) a2 && (regv (hR2 (frm a0)) a3 && numb (frm a0) a4)))
theorem Right_eq (a0 a1 a2 a3 a4 : Int) (k : Nat) (hk : 4 ≤ k) : inst_Right.f k a0 a1 a2 a3 a4 = some (rightv a0 a1 a2 a3 a4) := by
 unfold inst_Right.f rightv
 rw [Form_eq, obs, has_eq _ k hk, obs]
 by_cases h : frm a0 = 0
 ·rw [if_pos h, decide_eq_false (by simp [h])]; rfl
 rw [if_neg h, decide_eq_true h, register_eq, obs, register_eq, obs, register_eq, obs, number_eq _ _ k (by omega), obs]
 cases regv (hRd (frm a0)) a1 <;> cases regv (hR1 (frm a0)) a2 <;> cases regv (hR2 (frm a0)) a3 <;> rfl
theorem or_sum {x y : Nat} (m n : Nat) (hx : x &&& m = x) (hy : y &&& n = y) (h : m &&& n = 0) (lx : x < 4294967296) (ly : y < 4294967296) : x ||| y = x + y ∧ (x + y) &&& (m ||| n) = x + y ∧ x + y < 4294967296 := by
 have h0 : x &&& y = 0 := by
  rw [← hx, ← hy, show (x &&& m) &&& (y &&& n) = (x &&& y) &&& (m &&& n) by ac_rfl, h, Nat.and_zero]
 have e := (and_add_or 32 x y lx ly).1
 have e2 : x ||| y = x + y := by omega
 refine ⟨e2, ?_, ?_⟩
 ·rw [← e2]
  apply Nat.eq_of_testBit_eq
  intro i
  have hx' := congrArg (·.testBit i) hx
  have hy' := congrArg (·.testBit i) hy
  simp only [Nat.testBit_and, Nat.testBit_or] at hx' hy' ⊢
  revert hx' hy'
  cases x.testBit i <;> cases y.testBit i <;> cases m.testBit i <;> cases n.testBit i <;> simp
 ·rw [← e2]; exact Nat.or_lt_two_pow (n := 32) lx ly
theorem piece (a s n : Nat) (h : a < 2 ^ n) : (a * 2 ^ s) &&& ((2 ^ n - 1) * 2 ^ s) = a * 2 ^ s := by
 apply nat_of_bits
 intro i
 rw [bit_and, bit_shl, bit_shl]
 by_cases hi : i < s
 ·rw [if_pos hi]; simp
 ·rw [if_neg hi, if_neg hi, bit_of (2 ^ n - 1), Nat.testBit_two_pow_sub_one]
  by_cases hn : i - s < n
  ·simp [hn]
  ·rw [bit_big a (i - s) n h (by omega)]; simp
def toldv (f : Int) (m : Nat) : Nat :=
 if f = 85 then m % 1048576 * 4096
 else if f = 74 then m / 1048576 % 2 * 2147483648 + m / 4096 % 256 * 4096 + m / 2048 % 2 * 1048576 + m / 2 % 1024 * 2097152
 else if f = 73 ∨ f = 72 then m % 4096 * 1048576
 else if f = 83 then m / 32 % 128 * 33554432 + m % 32 * 128
 else if f = 66 then m / 4096 % 2 * 2147483648 + m / 2048 % 2 * 128 + m / 32 % 64 * 33554432 + m / 2 % 16 * 256
 else 0
theorem shl_small (a s n : Nat) (h : a < 2 ^ n) (hs : n + s ≤ 32) : shl .u32 (a : Int) (s : Int) = ((a * 2 ^ s : Nat) : Int) := by
 rw [shl_nat a s (by omega), Nat.mod_eq_of_lt]
 calc a * 2 ^ s < 2 ^ n * 2 ^ s := Nat.mul_lt_mul_of_pos_right h (Nat.pow_pos (by omega))
  _ = 2 ^ (n + s) := (Nat.pow_add ..).symm
  _ ≤ 2 ^ 32 := two_pow_le _ _ hs
theorem piece_lt (a s n : Nat) (h : a < 2 ^ n) (hs : n + s ≤ 32) : a * 2 ^ s < 4294967296 := by
 calc a * 2 ^ s < 2 ^ n * 2 ^ s := Nat.mul_lt_mul_of_pos_right h (Nat.pow_pos (by omega))
  _ = 2 ^ (n + s) := (Nat.pow_add ..).symm
  _ ≤ 2 ^ 32 := two_pow_le _ _ hs
theorem mul_small (a s n : Nat) (c : Int) (hc : c = ((2 ^ s : Nat) : Int)) (h : a < 2 ^ n) (hs : n + s ≤ 32) : ((a : Int) * c) % 4294967296 = ((a * 2 ^ s : Nat) : Int) := by
 have := piece_lt a s n h hs
 rw [hc, ← Int.natCast_mul]
 generalize a * 2 ^ s = x at *
 omega
def sig (v n : Nat) : Int := (v : Int) - (if v / 2 ^ (n - 1) % 2 = 1 then ((2 ^ n : Nat) : Int) else 0)
theorem signed_eq (v n : Nat) (h1 : 1 ≤ n) (h2 : n ≤ 31) (hv : v < 2 ^ n) (k : Nat) (hk : 80 < k) : inst_signed.f k (v : Int) (n : Int) = some (sig v n) := by
 have hp := two_pow_le n 31 h2
 unfold inst_signed.f
 rw [Sign_eq v (by omega) _ k hk, obs]
 unfold sgn sig
 rw [if_pos (by omega), Int.toNat_natCast, Nat.mod_eq_of_lt hv]
 have hn : 2 ^ n = 2 * 2 ^ (n - 1) := by rw [← Nat.pow_succ']; congr 1; omega
 have hb : v / 2 ^ (n - 1) < 2 := by rw [Nat.div_lt_iff_lt_mul (Nat.pow_pos (by omega))]; omega
 congr 1
 by_cases h : v / 2 ^ (n - 1) % 2 = 1
 ·rw [if_pos h, if_pos h]
  generalize 2 ^ n = x at *
  unfold wrap64 wrap32
  omega
 ·rw [if_neg h, if_neg h]
  have h0 : v / 2 ^ (n - 1) = 0 := by
   revert h hb; generalize v / 2 ^ (n - 1) = q; omega
  have h3 : v < 2 ^ (n - 1) := by
   rcases Nat.div_eq_zero_iff.1 h0 with h4 | h4
   ·have := Nat.pow_pos (n := n - 1) (show 0 < 2 by omega); omega
   ·exact h4
  generalize 2 ^ (n - 1) = y at *
  unfold wrap64 wrap32
  omega
def immv (f : Int) (w : Nat) : Int :=
 if f = 85 then ((w / 4096 : Nat) : Int)
 else if f = 74 then sig (w / 2147483648 * 1048576 + w / 4096 % 256 * 4096 + w / 1048576 % 2 * 2048 + w / 2097152 % 1024 * 2) 21
 else if f = 73 then sig (w / 1048576) 12
 else if f = 83 then sig (w / 33554432 * 32 + w / 128 % 32) 12
 else if f = 66 then sig (w / 2147483648 * 4096 + w / 128 % 2 * 2048 + w / 33554432 % 64 * 32 + w / 256 % 16 * 2) 13
 else if f = 72 then ((w / 1048576 % 32 : Nat) : Int)
 else 0
theorem top_mod (w p n : Nat) (hw : w < 4294967296) (h : p + n = 32) : w / 2 ^ p % 2 ^ n = w / 2 ^ p := by
 apply Nat.mod_eq_of_lt
 rw [Nat.div_lt_iff_lt_mul (Nat.pow_pos (by omega)), ← Nat.pow_add, show n + p = 32 by omega]
 exact hw
theorem wrap64_nat (a : Nat) (h : a < 4294967296) : wrap64 (a : Int) = (a : Int) := by unfold wrap64; omega
theorem imm_eq (f : Int) (w : Nat) (hw : w < 4294967296) (k : Nat) (hk : 80 < k) : inst_imm.f k f (w : Int) = some (immv f w) := by
 have F (p n : Nat) (hp : p < 32) (h1 : 1 ≤ n) (hn : n ≤ 32 - p) := Field_may w p n hw hp h1 hn k (by omega)
 unfold inst_imm.f immv
 by_cases h1 : f = 85
 ·rw [if_pos h1, if_pos h1]
  have f1 : word_Field.f k (w : Int) 12 20 = _ := F 12 20 (by decide) (by decide) (by decide)
  rw [f1, obs, top_mod w 12 20 hw (by decide)]
  have : w / 2 ^ 12 ≤ w := Nat.div_le_self _ _
  rw [wrap64_nat _ (by omega)]
 rw [if_neg h1, if_neg h1]
 by_cases h2 : f = 74
 ·rw [if_pos h2, if_pos h2]
  have f1 : word_Field.f k (w : Int) 31 1 = some ((w / 2 ^ 31 % 2 ^ 1 : Nat) : Int) := F 31 1 (by decide) (by decide) (by decide)
  have l1 : w / 2 ^ 31 % 2 ^ 1 < 2 ^ 1 := Nat.mod_lt _ (by decide)
  have f2 : word_Field.f k (w : Int) 12 8 = some ((w / 2 ^ 12 % 2 ^ 8 : Nat) : Int) := F 12 8 (by decide) (by decide) (by decide)
  have l2 : w / 2 ^ 12 % 2 ^ 8 < 2 ^ 8 := Nat.mod_lt _ (by decide)
  have f3 : word_Field.f k (w : Int) 20 1 = some ((w / 2 ^ 20 % 2 ^ 1 : Nat) : Int) := F 20 1 (by decide) (by decide) (by decide)
  have l3 : w / 2 ^ 20 % 2 ^ 1 < 2 ^ 1 := Nat.mod_lt _ (by decide)
  have f4 : word_Field.f k (w : Int) 21 10 = some ((w / 2 ^ 21 % 2 ^ 10 : Nat) : Int) := F 21 10 (by decide) (by decide) (by decide)
  have l4 : w / 2 ^ 21 % 2 ^ 10 < 2 ^ 10 := Nat.mod_lt _ (by decide)
  rw [f1, obs, f2, obs, f3, obs, f4, obs]
  have s1 : (((w / 2 ^ 31 % 2 ^ 1 : Nat) : Int) * 1048576) % 4294967296 = _ := mul_small _ 20 1 _ rfl l1 (by decide)
  have p1 := piece _ 20 1 l1
  have b1 := piece_lt _ 20 1 l1 (by decide)
  have s2 : (((w / 2 ^ 12 % 2 ^ 8 : Nat) : Int) * 4096) % 4294967296 = _ := mul_small _ 12 8 _ rfl l2 (by decide)
  have p2 := piece _ 12 8 l2
  have b2 := piece_lt _ 12 8 l2 (by decide)
  have s3 : (((w / 2 ^ 20 % 2 ^ 1 : Nat) : Int) * 2048) % 4294967296 = _ := mul_small _ 11 1 _ rfl l3 (by decide)
  have p3 := piece _ 11 1 l3
  have b3 := piece_lt _ 11 1 l3 (by decide)
  have s4 : (((w / 2 ^ 21 % 2 ^ 10 : Nat) : Int) * 2) % 4294967296 = _ := mul_small _ 1 10 _ rfl l4 (by decide)
  have p4 := piece _ 1 10 l4
  have b4 := piece_lt _ 1 10 l4 (by decide)
  rw [s1, s2, s3, s4]
  obtain ⟨e2, q2, r2⟩ := or_sum _ _ p1 p2 (by decide +kernel) b1 b2
  obtain ⟨e3, q3, r3⟩ := or_sum _ _ q2 p3 (by decide +kernel) r2 b3
  obtain ⟨e4, q4, r4⟩ := or_sum _ _ q3 p4 (by decide +kernel) r3 b4
  rw [u32_or_nat _ _ b1 b2, e2]
  rw [u32_or_nat _ _ r2 b3, e3]
  rw [u32_or_nat _ _ r3 b4, e4]
  have g : inst_signed.f k ((w / 2 ^ 31 % 2 ^ 1 * 2 ^ 20 + w / 2 ^ 12 % 2 ^ 8 * 2 ^ 12 + w / 2 ^ 20 % 2 ^ 1 * 2 ^ 11 + w / 2 ^ 21 % 2 ^ 10 * 2 ^ 1 : Nat) : Int) 21 = _ := signed_eq (w / 2 ^ 31 % 2 ^ 1 * 2 ^ 20 + w / 2 ^ 12 % 2 ^ 8 * 2 ^ 12 + w / 2 ^ 20 % 2 ^ 1 * 2 ^ 11 + w / 2 ^ 21 % 2 ^ 10 * 2 ^ 1) 21 (by decide) (by decide) ?_ k hk
  ·rw [g, obs, top_mod w 31 1 hw (by decide)]
  ·clear f1 p1 b1 f2 p2 b2 f3 p3 b3 f4 p4 b4 F s1 s2 s3 s4 e2 q2 r2 e3 q3 r3 e4 q4 r4
   generalize w / 2 ^ 31 % 2 ^ 1 = a1 at *
   generalize w / 2 ^ 12 % 2 ^ 8 = a2 at *
   generalize w / 2 ^ 20 % 2 ^ 1 = a3 at *
   generalize w / 2 ^ 21 % 2 ^ 10 = a4 at *
   omega
 rw [if_neg h2, if_neg h2]
 by_cases h3 : f = 73
 ·rw [if_pos h3, if_pos h3]
  have f1 : word_Field.f k (w : Int) 20 12 = _ := F 20 12 (by decide) (by decide) (by decide)
  have g : inst_signed.f k ((w / 2 ^ 20 % 2 ^ 12 : Nat) : Int) 12 = _ := signed_eq _ 12 (by decide) (by decide) (Nat.mod_lt _ (by decide)) k hk
  rw [f1, obs, g, obs, top_mod w 20 12 hw (by decide)]
 rw [if_neg h3, if_neg h3]
 by_cases h4 : f = 83
 ·rw [if_pos h4, if_pos h4]
  have f1 : word_Field.f k (w : Int) 25 7 = some ((w / 2 ^ 25 % 2 ^ 7 : Nat) : Int) := F 25 7 (by decide) (by decide) (by decide)
  have l1 : w / 2 ^ 25 % 2 ^ 7 < 2 ^ 7 := Nat.mod_lt _ (by decide)
  have f2 : word_Field.f k (w : Int) 7 5 = some ((w / 2 ^ 7 % 2 ^ 5 : Nat) : Int) := F 7 5 (by decide) (by decide) (by decide)
  have l2 : w / 2 ^ 7 % 2 ^ 5 < 2 ^ 5 := Nat.mod_lt _ (by decide)
  rw [f1, obs, f2, obs]
  have s1 : (((w / 2 ^ 25 % 2 ^ 7 : Nat) : Int) * 32) % 4294967296 = _ := mul_small _ 5 7 _ rfl l1 (by decide)
  have p1 := piece _ 5 7 l1
  have b1 := piece_lt _ 5 7 l1 (by decide)
  have p2 : w / 2 ^ 7 % 2 ^ 5 &&& (2 ^ 5 - 1) = w / 2 ^ 7 % 2 ^ 5 := by rw [Nat.and_two_pow_sub_one_eq_mod, Nat.mod_mod]
  have b2 : w / 2 ^ 7 % 2 ^ 5 < 4294967296 := by omega
  rw [s1]
  obtain ⟨e2, q2, r2⟩ := or_sum _ _ p1 p2 (by decide +kernel) b1 b2
  rw [u32_or_nat _ _ b1 b2, e2]
  have g : inst_signed.f k ((w / 2 ^ 25 % 2 ^ 7 * 2 ^ 5 + w / 2 ^ 7 % 2 ^ 5 : Nat) : Int) 12 = _ := signed_eq (w / 2 ^ 25 % 2 ^ 7 * 2 ^ 5 + w / 2 ^ 7 % 2 ^ 5) 12 (by decide) (by decide) ?_ k hk
  ·rw [g, obs, top_mod w 25 7 hw (by decide)]
  ·clear f1 p1 b1 f2 p2 b2 F s1 e2 q2 r2
   generalize w / 2 ^ 25 % 2 ^ 7 = a1 at *
   generalize w / 2 ^ 7 % 2 ^ 5 = a2 at *
   omega
 rw [if_neg h4, if_neg h4]
 by_cases h5 : f = 66
 ·rw [if_pos h5, if_pos h5]
  have f1 : word_Field.f k (w : Int) 31 1 = some ((w / 2 ^ 31 % 2 ^ 1 : Nat) : Int) := F 31 1 (by decide) (by decide) (by decide)
  have l1 : w / 2 ^ 31 % 2 ^ 1 < 2 ^ 1 := Nat.mod_lt _ (by decide)
  have f2 : word_Field.f k (w : Int) 7 1 = some ((w / 2 ^ 7 % 2 ^ 1 : Nat) : Int) := F 7 1 (by decide) (by decide) (by decide)
  have l2 : w / 2 ^ 7 % 2 ^ 1 < 2 ^ 1 := Nat.mod_lt _ (by decide)
  have f3 : word_Field.f k (w : Int) 25 6 = some ((w / 2 ^ 25 % 2 ^ 6 : Nat) : Int) := F 25 6 (by decide) (by decide) (by decide)
  have l3 : w / 2 ^ 25 % 2 ^ 6 < 2 ^ 6 := Nat.mod_lt _ (by decide)
  have f4 : word_Field.f k (w : Int) 8 4 = some ((w / 2 ^ 8 % 2 ^ 4 : Nat) : Int) := F 8 4 (by decide) (by decide) (by decide)
  have l4 : w / 2 ^ 8 % 2 ^ 4 < 2 ^ 4 := Nat.mod_lt _ (by decide)
  rw [f1, obs, f2, obs, f3, obs, f4, obs]
  have s1 : (((w / 2 ^ 31 % 2 ^ 1 : Nat) : Int) * 4096) % 4294967296 = _ := mul_small _ 12 1 _ rfl l1 (by decide)
  have p1 := piece _ 12 1 l1
  have b1 := piece_lt _ 12 1 l1 (by decide)
  have s2 : (((w / 2 ^ 7 % 2 ^ 1 : Nat) : Int) * 2048) % 4294967296 = _ := mul_small _ 11 1 _ rfl l2 (by decide)
  have p2 := piece _ 11 1 l2
  have b2 := piece_lt _ 11 1 l2 (by decide)
  have s3 : (((w / 2 ^ 25 % 2 ^ 6 : Nat) : Int) * 32) % 4294967296 = _ := mul_small _ 5 6 _ rfl l3 (by decide)
  have p3 := piece _ 5 6 l3
  have b3 := piece_lt _ 5 6 l3 (by decide)
  have s4 : (((w / 2 ^ 8 % 2 ^ 4 : Nat) : Int) * 2) % 4294967296 = _ := mul_small _ 1 4 _ rfl l4 (by decide)
  have p4 := piece _ 1 4 l4
  have b4 := piece_lt _ 1 4 l4 (by decide)
  rw [s1, s2, s3, s4]
  obtain ⟨e2, q2, r2⟩ := or_sum _ _ p1 p2 (by decide +kernel) b1 b2
  obtain ⟨e3, q3, r3⟩ := or_sum _ _ q2 p3 (by decide +kernel) r2 b3
  obtain ⟨e4, q4, r4⟩ := or_sum _ _ q3 p4 (by decide +kernel) r3 b4
  rw [u32_or_nat _ _ b1 b2, e2]
  rw [u32_or_nat _ _ r2 b3, e3]
  rw [u32_or_nat _ _ r3 b4, e4]
  have g : inst_signed.f k ((w / 2 ^ 31 % 2 ^ 1 * 2 ^ 12 + w / 2 ^ 7 % 2 ^ 1 * 2 ^ 11 + w / 2 ^ 25 % 2 ^ 6 * 2 ^ 5 + w / 2 ^ 8 % 2 ^ 4 * 2 ^ 1 : Nat) : Int) 13 = _ := signed_eq (w / 2 ^ 31 % 2 ^ 1 * 2 ^ 12 + w / 2 ^ 7 % 2 ^ 1 * 2 ^ 11 + w / 2 ^ 25 % 2 ^ 6 * 2 ^ 5 + w / 2 ^ 8 % 2 ^ 4 * 2 ^ 1) 13 (by decide) (by decide) ?_ k hk
  ·rw [g, obs, top_mod w 31 1 hw (by decide)]
  ·clear f1 p1 b1 f2 p2 b2 f3 p3 b3 f4 p4 b4 F s1 s2 s3 s4 e2 q2 r2 e3 q3 r3 e4 q4 r4
   generalize w / 2 ^ 31 % 2 ^ 1 = a1 at *
   generalize w / 2 ^ 7 % 2 ^ 1 = a2 at *
   generalize w / 2 ^ 25 % 2 ^ 6 = a3 at *
   generalize w / 2 ^ 8 % 2 ^ 4 = a4 at *
   omega
 rw [if_neg h5, if_neg h5]
 by_cases h6 : f = 72
 ·rw [if_pos h6, if_pos h6]
  have f1 : word_Field.f k (w : Int) 20 5 = _ := F 20 5 (by decide) (by decide) (by decide)
  rw [f1, obs, wrap64_nat _ (by omega)]
 rw [if_neg h6, if_neg h6]
def tellsP (a b c d : Int) (w : Nat) : Prop :=
 ((a = 85 ∨ a = 74) ∧ ((w % 128 : Nat) : Int) = b) ∨ ((a = 82 ∨ a = 72) ∧ ((w % 128 : Nat) : Int) = b ∧ ((w / 4096 % 8 : Nat) : Int) = c ∧ ((w / 33554432 : Nat) : Int) = d)
  ∨ ((a = 73 ∨ a = 83 ∨ a = 66) ∧ ((w % 128 : Nat) : Int) = b ∧ ((w / 4096 % 8 : Nat) : Int) = c)
instance (a b c d : Int) (w : Nat) : Decidable (tellsP a b c d w) := by unfold tellsP; infer_instance
theorem beq_dec (x y : Int) : (x == y) = decide (x = y) := by
 by_cases h : x = y
 ·rw [beq_iff_eq.mpr h, decide_eq_true h]
 ·rw [beq_eq_false_iff_ne.mpr h, decide_eq_false h]
theorem tells_eq (a b c d : Int) (w : Nat) (hw : w < 4294967296) (k : Nat) (hk : 90 < k) : inst_tells.f k a b c d (w : Int) = some (decide (tellsP a b c d w)) := by
 obtain ⟨k, rfl⟩ : ∃ m, k = m + 3 := ⟨k - 3, by omega⟩
 have f1 (k : Nat) (hk : 80 < k) : word_Field.f k (w : Int) 0 7 = some ((w % 128 : Nat) : Int) := fld0 w 7 hw (by decide) (by decide) k hk
 have f2 (k : Nat) (hk : 80 < k) : word_Field.f k (w : Int) 12 3 = some ((w / 4096 % 8 : Nat) : Int) := Field_may w 12 3 hw (by decide) (by decide) (by decide) k (by omega)
 have f3 (k : Nat) (hk : 80 < k) : word_Field.f k (w : Int) 25 7 = some ((w / 33554432 : Nat) : Int) := by
  have := Field_may w 25 7 hw (by decide) (by decide) (by decide) k (by omega)
  rw [top_mod w 25 7 hw (by decide)] at this
  exact this
 unfold inst_tells.f
 have hj1 : ∀ k, 83 < k → (a = 82 ∨ a = 72) → inst_tells.j1 k (w : Int) a true a b c d = some (decide (tellsP a b c d w)) := by
  intro k hk ha
  obtain ⟨k, rfl⟩ : ∃ m, k = m + 1 := ⟨k - 1, by omega⟩
  simp only [inst_tells.j1]
  rw [if_true, f1 k (by omega), obs, f2 k (by omega), obs, f3 k (by omega), obs]
  by_cases e1 : ((w % 128 : Nat) : Int) = b
  ·rw [if_pos e1]
   by_cases e2 : ((w / 4096 % 8 : Nat) : Int) = c
   ·rw [if_pos e2, beq_dec]; congr 1; rw [decide_eq_decide]; unfold tellsP; constructor
    ·intro e; exact Or.inr (Or.inl ⟨ha, e1, e2, e⟩)
    ·rintro (⟨h, _⟩ | ⟨_, _, _, e⟩ | ⟨h, _⟩) <;> first | exact e | (exfalso; omega)
   ·rw [if_neg e2, decide_eq_false]
    rintro (⟨h, _⟩ | ⟨_, _, e, _⟩ | ⟨h, _⟩) <;> first | exact e2 e | omega
  ·rw [if_neg e1, decide_eq_false]
   rintro (⟨h, _⟩ | ⟨_, e, _, _⟩ | ⟨h, _⟩) <;> first | exact e1 e | omega
 have hj2 : ∀ k, 83 < k → (a = 73 ∨ a = 83 ∨ a = 66) → inst_tells.j2 k (w : Int) true a b c d = some (decide (tellsP a b c d w)) := by
  intro k hk ha
  obtain ⟨k, rfl⟩ : ∃ m, k = m + 1 := ⟨k - 1, by omega⟩
  simp only [inst_tells.j2]
  rw [if_true, f1 k (by omega), obs, f2 k (by omega), obs]
  by_cases e1 : ((w % 128 : Nat) : Int) = b
  ·rw [if_pos e1, beq_dec]; congr 1; rw [decide_eq_decide]; unfold tellsP; constructor
   ·intro e; exact Or.inr (Or.inr ⟨ha, e1, e⟩)
   ·rintro (⟨h, _⟩ | ⟨h, _, _, _⟩ | ⟨_, _, e⟩) <;> first | exact e | (exfalso; omega)
  ·rw [if_neg e1, decide_eq_false]
   rintro (⟨h, _⟩ | ⟨h, _, _, _⟩ | ⟨_, e, _⟩) <;> first | exact e1 e | omega
 have hj0 : ∀ k, 83 < k → (a = 85 ∨ a = 74) → inst_tells.j0 k (w : Int) a true a b c d = some (decide (tellsP a b c d w)) := by
  intro k hk ha
  obtain ⟨k, rfl⟩ : ∃ m, k = m + 1 := ⟨k - 1, by omega⟩
  simp only [inst_tells.j0]
  rw [if_true, f1 k (by omega), obs, beq_dec]; congr 1; rw [decide_eq_decide]; unfold tellsP; constructor
  ·intro e; exact Or.inl ⟨ha, e⟩
  ·rintro (⟨_, e⟩ | ⟨h, _, _, _⟩ | ⟨h, _, _⟩) <;> first | exact e | (exfalso; omega)
 by_cases h1 : a = 85
 ·rw [if_pos h1, show (a == 85) = true from beq_iff_eq.mpr h1, hj0 _ (by omega) (Or.inl h1)]
 rw [if_neg h1]
 by_cases h2 : a = 74
 ·rw [show (a == 74) = true from beq_iff_eq.mpr h2, hj0 _ (by omega) (Or.inr h2)]
 rw [show (a == 74) = false from beq_eq_false_iff_ne.mpr h2]
 simp only [inst_tells.j0]
 rw [if_neg (by decide)]
 by_cases h3 : a = 82
 ·rw [if_pos h3, show (a == 82) = true from beq_iff_eq.mpr h3, hj1 _ (by omega) (Or.inl h3)]
 rw [if_neg h3]
 by_cases h4 : a = 72
 ·rw [show (a == 72) = true from beq_iff_eq.mpr h4, hj1 _ (by omega) (Or.inr h4)]
 rw [show (a == 72) = false from beq_eq_false_iff_ne.mpr h4]
 simp only [inst_tells.j1]
 rw [if_neg (by decide)]
 by_cases h5 : a = 73
 ·rw [if_pos h5, show (a == 73) = true from beq_iff_eq.mpr h5, hj2 _ (by omega) (Or.inl h5)]
 rw [if_neg h5]
 by_cases h6 : a = 83
 ·rw [if_pos h6, show (a == 83) = true from beq_iff_eq.mpr h6, hj2 _ (by omega) (Or.inr (Or.inl h6))]
 rw [if_neg h6]
 by_cases h7 : a = 66
 ·rw [show (a == 66) = true from beq_iff_eq.mpr h7, hj2 _ (by omega) (Or.inr (Or.inr h7))]
 rw [show (a == 66) = false from beq_eq_false_iff_ne.mpr h7]
 simp only [inst_tells.j2]
 rw [if_neg (by decide), decide_eq_false]
 rintro (⟨h, _⟩ | ⟨h, _⟩ | ⟨h, _⟩) <;> omega
theorem rows_ok : ∀ n : Fin 45, kGet n.val = ((kGet n.val).1, (((kGet n.val).2.1.toNat : Nat) : Int), (((kGet n.val).2.2.1.toNat : Nat) : Int), (((kGet n.val).2.2.2.toNat : Nat) : Int)) ∧ (kGet n.val).2.1.toNat < 128 ∧ (kGet n.val).2.1.toNat % 4 = 3 ∧ (kGet n.val).2.1.toNat ≠ 115 ∧ (kGet n.val).2.2.1.toNat < 8 ∧ (kGet n.val).2.2.2.toNat < 128 ∧ (kGet n.val).2.2.2.toNat % 32 = 0 ∨
  kGet n.val = ((kGet n.val).1, (((kGet n.val).2.1.toNat : Nat) : Int), (((kGet n.val).2.2.1.toNat : Nat) : Int), (((kGet n.val).2.2.2.toNat : Nat) : Int)) ∧ (kGet n.val).2.1.toNat < 128 ∧ (kGet n.val).2.1.toNat % 4 = 3 ∧ (kGet n.val).2.1.toNat ≠ 115 ∧ (kGet n.val).2.2.1.toNat < 8 ∧ (kGet n.val).2.2.2.toNat < 128 ∧ (kGet n.val).1 = 82 := by decide +kernel
theorem rows_form : ∀ n : Fin 45, ((kGet n.val).1 = 85 ∨ (kGet n.val).1 = 74 ∨ (kGet n.val).1 = 73 ∨ (kGet n.val).1 = 66 ∨ (kGet n.val).1 = 83 ∨ (kGet n.val).1 = 72 ∨ (kGet n.val).1 = 82) ∧ ((kGet n.val).1 = 85 ∨ (kGet n.val).1 = 74 → (kGet n.val).2.2.1.toNat = 0 ∧ (kGet n.val).2.2.2.toNat = 0) ∧ ((kGet n.val).1 = 73 ∨ (kGet n.val).1 = 83 ∨ (kGet n.val).1 = 66 → (kGet n.val).2.2.2.toNat = 0) := by decide +kernel
structure Row (n : Nat) (a : Int) (b c d : Nat) : Prop where
 get : kGet n = (a, (b : Int), (c : Int), (d : Int))
 hb : b < 128
 h4 : b % 4 = 3
 h115 : b ≠ 115
 hc : c < 8
 hd : d < 128
 form : a = 85 ∨ a = 74 ∨ a = 73 ∨ a = 66 ∨ a = 83 ∨ a = 72 ∨ a = 82
 up : a = 85 ∨ a = 74 → c = 0 ∧ d = 0
 mid : a = 73 ∨ a = 83 ∨ a = 66 → d = 0
theorem row_at (n : Nat) (hn : n < 45) : ∃ a b c d, Row n a b c d := by
 obtain ⟨h1, h2, h3⟩ := rows_form ⟨n, hn⟩
 rcases rows_ok ⟨n, hn⟩ with ⟨e1, e2, e3, e4, e5, e6, _⟩ | ⟨e1, e2, e3, e4, e5, e6, _⟩
 ·exact ⟨_, _, _, _, e1, e2, e3, e4, e5, e6, h1, h2, h3⟩
 ·exact ⟨_, _, _, _, e1, e2, e3, e4, e5, e6, h1, h2, h3⟩
def apartB (r s : Int × Int × Int × Int) : Bool :=
 decide (r.1 = 69 ∨ s.1 = 69 ∨ r.2.1 ≠ s.2.1 ∨ ((r.1 ≠ 85 ∧ r.1 ≠ 74 ∧ s.1 ≠ 85 ∧ s.1 ≠ 74) ∧ (r.2.2.1 ≠ s.2.2.1 ∨ ((r.1 = 82 ∨ r.1 = 72) ∧ (s.1 = 82 ∨ s.1 = 72) ∧ r.2.2.2 ≠ s.2.2.2))))
theorem rows_apart : ∀ i j : Fin 47, i = j ∨ apartB (kGet i.val) (kGet j.val) = true := by decide +kernel
theorem tells_one (i j w : Nat) (hi : i < 47) (hj : j < 47) (h1 : tellsP (kGet i).1 (kGet i).2.1 (kGet i).2.2.1 (kGet i).2.2.2 w) (h2 : tellsP (kGet j).1 (kGet j).2.1 (kGet j).2.2.1 (kGet j).2.2.2 w) : i = j := by
 rcases rows_apart ⟨i, hi⟩ ⟨j, hj⟩ with h | h
 ·exact congrArg Fin.val h
 ·exfalso
  have h := of_decide_eq_true h
  simp only at h
  unfold tellsP at h1 h2
  omega
def decx (j w : Nat) : Int × Int × Int × Int × Int × Int :=
 ((j : Int), if hRd (kGet j).1 = true then ((w / 128 % 32 : Nat) : Int) else 0, if hR1 (kGet j).1 = true then ((w / 32768 % 32 : Nat) : Int) else 0, if hR2 (kGet j).1 = true then ((w / 1048576 % 32 : Nat) : Int) else 0, immv (kGet j).1 w, 0)
def tk (j w : Nat) : Prop := tellsP (kGet j).1 (kGet j).2.1 (kGet j).2.2.1 (kGet j).2.2.2 w
instance (j w : Nat) : Decidable (tk j w) := by unfold tk; infer_instance
theorem or_field (c : Bool) (w p : Nat) (hw : w < 4294967296) (hp : p ≤ 27) (k : Nat) (hk : 80 < k) : (if c = true then (word_Field.f k (w : Int) (p : Int) 5).bind fun q => some (wrap64 q) else some 0) = some (if c = true then ((w / 2 ^ p % 32 : Nat) : Int) else 0) := by
 cases c
 ·rfl
 ·rw [if_pos rfl, if_pos rfl, show word_Field.f k (w : Int) (p : Int) 5 = _ from Field_may w p 5 hw (by omega) (by decide) (by omega) k (by omega), obs, show (2 : Nat) ^ 5 = 32 from rfl, wrap64_nat _ (by have := Nat.mod_lt (w / 2 ^ p) (show 0 < 32 by decide); omega)]
theorem Decode_step (w j : Nat) (hw : w < 4294967296) (hj : j < 47) (k : Nat) (hk : 100 < k) : inst_Decode.l0 (k + 1) (w : Int) (j : Int) = if tk j w then some (decx j w) else inst_Decode.l0 k (w : Int) ((j + 1 : Nat) : Int) := by
 simp only [inst_Decode.l0]
 rw [if_pos (by omega), if_pos (by omega), Int.toNat_natCast, tells_eq _ _ _ _ w hw k (by omega), obs]
 by_cases h : tk j w
 ·have h' : tellsP (kGet j).1 (kGet j).2.1 (kGet j).2.2.1 (kGet j).2.2.2 w := h
  rw [if_pos h, if_pos (decide_eq_true h'), imm_eq _ w hw k (by omega), obs, has_eq _ k (by omega), obs]
  have o1 := or_field (hRd (kGet j).1) w 7 hw (by decide) k (by omega)
  have o2 := or_field (hR1 (kGet j).1) w 15 hw (by decide) k (by omega)
  have o3 := or_field (hR2 (kGet j).1) w 20 hw (by decide) k (by omega)
  erw [o1, obs, o2, obs, o3, obs]
  rfl
 ·have h' : ¬ tellsP (kGet j).1 (kGet j).2.1 (kGet j).2.2.1 (kGet j).2.2.2 w := h
  rw [if_neg h, if_neg (by rw [decide_eq_false h']; decide), show wrap64 ((j : Int) + 1) = ((j + 1 : Nat) : Int) by rw [wrap64_lit _ (by omega) (by omega)]; omega]
theorem Decode_from (w : Nat) (hw : w < 4294967296) (d : Nat) : ∀ (j k : Nat), j + d = 47 → 101 + d < k →
  (∀ i, j ≤ i → i < 47 → tk i w → inst_Decode.l0 k (w : Int) (j : Int) = some (decx i w)) ∧ ((∀ i, j ≤ i → i < 47 → ¬ tk i w) → inst_Decode.l0 k (w : Int) (j : Int) = some (0, 0, 0, 0, 0, 20)) := by
 induction d with
 | zero =>
  intro j k hj hk
  obtain ⟨k, rfl⟩ : ∃ m, k = m + 1 := ⟨k - 1, by omega⟩
  refine ⟨fun i h1 h2 => by omega, fun _ => ?_⟩
  simp only [inst_Decode.l0]
  rw [if_neg (by omega)]
 | succ d ih =>
  intro j k hj hk
  obtain ⟨k, rfl⟩ : ∃ m, k = m + 1 := ⟨k - 1, by omega⟩
  rw [Decode_step w j hw (by omega) k (by omega)]
  obtain ⟨i1, i2⟩ := ih (j + 1) k (by omega) (by omega)
  constructor
  ·intro i h1 h2 h3
   by_cases h : tk j w
   ·rw [if_pos h, tells_one i j w h2 (by omega) h3 h]
   ·rw [if_neg h]
    refine i1 i ?_ h2 h3
    rcases Nat.lt_or_ge j i with h4 | h4
    ·omega
    ·exact absurd (show tk j w by rw [show j = i by omega]; exact h3) h
  ·intro h
   rw [if_neg (h j (by omega) (by omega))]
   exact i2 (fun i h1 h2 => h i (by omega) h2)
theorem tk_not (j w : Nat) (hj : j < 47) (h : tk j w) : w % 128 ≠ 115 ∧ j < 45 := by
 by_cases h1 : j < 45
 ·obtain ⟨a, b, c, d, R⟩ := row_at j h1
  refine ⟨?_, h1⟩
  unfold tk tellsP at h
  rw [R.get] at h
  have := R.h115
  simp only at h
  omega
 ·exfalso
  have hk : (kGet j).1 = 69 := by
   rcases (show j = 45 ∨ j = 46 by omega) with rfl | rfl <;> rfl
  unfold tk tellsP at h
  rw [hk] at h
  omega
theorem Decode_some (j w : Nat) (hw : w < 4294967296) (hj : j < 47) (h : tk j w) (k : Nat) (hk : 150 < k) : inst_Decode.f k (w : Int) = some (decx j w) := by
 have h1 := (tk_not j w hj h).1
 unfold inst_Decode.f
 rw [if_neg (by omega), if_neg (by omega)]
 exact (Decode_from w hw 47 0 k (by omega) (by omega)).1 j (by omega) hj h
theorem Decode_none (w : Nat) (hw : w < 4294967296) (h1 : w ≠ 115) (h2 : w ≠ 1048691) (h : ∀ j, j < 47 → ¬ tk j w) (k : Nat) (hk : 150 < k) : inst_Decode.f k (w : Int) = some (0, 0, 0, 0, 0, 20) := by
 unfold inst_Decode.f
 rw [if_neg (by omega), if_neg (by omega)]
 exact (Decode_from w hw 47 0 k (by omega) (by omega)).2 (fun j _ hj => h j hj)
theorem Decode_115 (k : Nat) : inst_Decode.f k (115 : Int) = some (45, 0, 0, 0, 0, 0) := rfl
theorem Decode_ebreak (k : Nat) : inst_Decode.f k (1048691 : Int) = some (46, 0, 0, 0, 0, 0) := rfl
theorem frm_row {n : Nat} {a : Int} {b c d : Nat} (R : Row n a b c d) (hn : n < 45) : frm (n : Int) = a := by
 unfold frm
 rw [if_pos (by omega), Int.toNat_natCast, R.get]
theorem right_row {n : Nat} {a : Int} {b c d : Nat} (R : Row n a b c d) (hn : n < 45) (rd rs1 rs2 m : Int) :
  rightv (n : Int) rd rs1 rs2 m = (regv (hRd a) rd && (regv (hR1 a) rs1 && (regv (hR2 a) rs2 && numb a m))) := by
 unfold rightv
 rw [frm_row R hn, decide_eq_true (by have := R.form; omega), Bool.true_and]
theorem regv_of (b : Bool) (x : Nat) (h : x < 32) (h0 : b = false → x = 0) : regv b (x : Int) = true := by
 unfold regv
 apply decide_eq_true
 cases b
 ·right; rw [h0 rfl]; rfl
 ·left; exact ⟨rfl, by omega, by omega⟩
theorem zk (k : Nat) : 0 * k &&& 0 = 0 * k := by rw [Nat.zero_mul, Nat.and_zero]
theorem piece' (a s n M : Nat) (hM : M = (2 ^ n - 1) * 2 ^ s) (h : a < 2 ^ n) : (a * 2 ^ s) &&& M = a * 2 ^ s := by rw [hM]; exact piece a s n h
theorem chain7 (x1 x2 x3 x4 x5 x6 x7 m1 m2 m3 m4 m5 m6 m7 : Nat) (h1 : x1 &&& m1 = x1) (h2 : x2 &&& m2 = x2) (h3 : x3 &&& m3 = x3) (h4 : x4 &&& m4 = x4) (h5 : x5 &&& m5 = x5) (h6 : x6 &&& m6 = x6) (h7 : x7 &&& m7 = x7)
  (l1 : x1 < 4294967296) (l2 : x2 < 4294967296) (l3 : x3 < 4294967296) (l4 : x4 < 4294967296) (l5 : x5 < 4294967296) (l6 : x6 < 4294967296) (l7 : x7 < 4294967296)
  (d : m1 &&& m2 = 0 ∧ (m1 ||| m2) &&& m3 = 0 ∧ ((m1 ||| m2) ||| m3) &&& m4 = 0 ∧ (((m1 ||| m2) ||| m3) ||| m4) &&& m5 = 0 ∧ ((((m1 ||| m2) ||| m3) ||| m4) ||| m5) &&& m6 = 0 ∧ (((((m1 ||| m2) ||| m3) ||| m4) ||| m5) ||| m6) &&& m7 = 0) :
  Go.bits .or .u32 (Go.bits .or .u32 (Go.bits .or .u32 (Go.bits .or .u32 (Go.bits .or .u32 (Go.bits .or .u32 (x1 : Int) (x2 : Int)) (x3 : Int)) (x4 : Int)) (x5 : Int)) (x6 : Int)) (x7 : Int) = ((x1 + x2 + x3 + x4 + x5 + x6 + x7 : Nat) : Int) ∧ x1 + x2 + x3 + x4 + x5 + x6 + x7 < 4294967296 := by
 obtain ⟨d2, d3, d4, d5, d6, d7⟩ := d
 obtain ⟨e2, q2, r2⟩ := or_sum _ _ h1 h2 d2 l1 l2
 obtain ⟨e3, q3, r3⟩ := or_sum _ _ q2 h3 d3 r2 l3
 obtain ⟨e4, q4, r4⟩ := or_sum _ _ q3 h4 d4 r3 l4
 obtain ⟨e5, q5, r5⟩ := or_sum _ _ q4 h5 d5 r4 l5
 obtain ⟨e6, q6, r6⟩ := or_sum _ _ q5 h6 d6 r5 l6
 obtain ⟨e7, q7, r7⟩ := or_sum _ _ q6 h7 d7 r6 l7
 rw [u32_or_nat _ _ l1 l2, e2, u32_or_nat _ _ r2 l3, e3, u32_or_nat _ _ r3 l4, e4, u32_or_nat _ _ r4 l5, e5, u32_or_nat _ _ r5 l6, e6, u32_or_nat _ _ r6 l7, e7]
 exact ⟨rfl, r7⟩
theorem told_mask (f : Int) (m : Nat) : toldv f m < 4294967296 ∧ (f = 85 ∨ f = 74 → toldv f m &&& 4294963200 = toldv f m) ∧ (f = 73 ∨ f = 72 → toldv f m &&& 4293918720 = toldv f m) ∧ (f = 83 ∨ f = 66 → toldv f m &&& 4261416832 = toldv f m) ∧ (f = 82 → toldv f m = 0) ∧
  (f = 72 → m < 32 → toldv f m &&& 32505856 = toldv f m) := by
 unfold toldv
 by_cases h1 : f = 85
 ·rw [if_pos h1]
  have l := Nat.mod_lt m (show 0 < 2 ^ 20 by decide)
  have p := piece' _ 12 20 4294963200 (by decide +kernel) l
  refine ⟨piece_lt _ 12 20 l (by decide), fun _ => p, ?_, ?_, ?_, ?_⟩ <;> intros <;> omega
 rw [if_neg h1]
 by_cases h2 : f = 74
 ·rw [if_pos h2]
  have l1 := Nat.mod_lt (m / 1048576) (show 0 < 2 ^ 1 by decide)
  have l2 := Nat.mod_lt (m / 4096) (show 0 < 2 ^ 8 by decide)
  have l3 := Nat.mod_lt (m / 2048) (show 0 < 2 ^ 1 by decide)
  have l4 := Nat.mod_lt (m / 2) (show 0 < 2 ^ 10 by decide)
  obtain ⟨_, q2, r2⟩ := or_sum _ _ (piece _ 31 1 l1) (piece _ 12 8 l2) (by decide +kernel) (piece_lt _ 31 1 l1 (by decide)) (piece_lt _ 12 8 l2 (by decide))
  obtain ⟨_, q3, r3⟩ := or_sum _ _ q2 (piece _ 20 1 l3) (by decide +kernel) r2 (piece_lt _ 20 1 l3 (by decide))
  obtain ⟨_, q4, r4⟩ := or_sum _ _ q3 (piece _ 21 10 l4) (by decide +kernel) r3 (piece_lt _ 21 10 l4 (by decide))
  refine ⟨r4, fun _ => q4, ?_, ?_, ?_, ?_⟩ <;> (intro h; rw [h2] at h; exact absurd h (by decide))
 rw [if_neg h2]
 by_cases h3 : f = 73 ∨ f = 72
 ·rw [if_pos h3]
  have l := Nat.mod_lt m (show 0 < 2 ^ 12 by decide)
  have p := piece' _ 20 12 4293918720 (by decide +kernel) l
  refine ⟨piece_lt _ 20 12 l (by decide), ?_, fun _ => p, ?_, ?_, ?_⟩
  ·intros; omega
  ·intros; omega
  ·intros; omega
  ·intro _ h
   rw [Nat.mod_eq_of_lt (show m < 4096 by omega)]
   exact piece' m 20 5 32505856 (by decide +kernel) h
 rw [if_neg h3]
 by_cases h5 : f = 83
 ·rw [if_pos h5]
  have l1 := Nat.mod_lt (m / 32) (show 0 < 2 ^ 7 by decide)
  have l2 := Nat.mod_lt m (show 0 < 2 ^ 5 by decide)
  obtain ⟨_, q2, r2⟩ := or_sum _ _ (piece _ 25 7 l1) (piece _ 7 5 l2) (by decide +kernel) (piece_lt _ 25 7 l1 (by decide)) (piece_lt _ 7 5 l2 (by decide))
  refine ⟨r2, ?_, ?_, fun _ => q2, ?_, ?_⟩ <;> intros <;> omega
 rw [if_neg h5]
 by_cases h6 : f = 66
 ·rw [if_pos h6]
  have l1 := Nat.mod_lt (m / 4096) (show 0 < 2 ^ 1 by decide)
  have l2 := Nat.mod_lt (m / 2048) (show 0 < 2 ^ 1 by decide)
  have l3 := Nat.mod_lt (m / 32) (show 0 < 2 ^ 6 by decide)
  have l4 := Nat.mod_lt (m / 2) (show 0 < 2 ^ 4 by decide)
  obtain ⟨_, q2, r2⟩ := or_sum _ _ (piece _ 31 1 l1) (piece _ 7 1 l2) (by decide +kernel) (piece_lt _ 31 1 l1 (by decide)) (piece_lt _ 7 1 l2 (by decide))
  obtain ⟨_, q3, r3⟩ := or_sum _ _ q2 (piece _ 25 6 l3) (by decide +kernel) r2 (piece_lt _ 25 6 l3 (by decide))
  obtain ⟨_, q4, r4⟩ := or_sum _ _ q3 (piece _ 8 4 l4) (by decide +kernel) r3 (piece_lt _ 8 4 l4 (by decide))
  refine ⟨r4, ?_, ?_, fun _ => q4, ?_, ?_⟩ <;> (intro h; rw [h6] at h; exact absurd h (by decide))
 rw [if_neg h6]
 refine ⟨by decide, ?_, ?_, ?_, ?_, ?_⟩ <;> intros <;> first | rfl | omega
def encw (a : Int) (b c d rd r1 r2 m : Nat) : Nat := b + c * 4096 + d * 33554432 + r1 * 32768 + toldv a m + rd * 128 + r2 * 1048576
theorem enc_chain {n : Nat} {a : Int} {b c d : Nat} (R : Row n a b c d) (rd r1 r2 m : Nat) (hrd : rd < 32) (hr1 : r1 < 32) (hr2 : r2 < 32)
  (zd : hRd a = false → rd = 0) (z1 : hR1 a = false → r1 = 0) (z2 : hR2 a = false → r2 = 0) (h72 : a = 72 → m < 32) :
  Go.bits .or .u32 (Go.bits .or .u32 (Go.bits .or .u32 (Go.bits .or .u32 (Go.bits .or .u32 (Go.bits .or .u32 (b : Int) ((c * 4096 : Nat) : Int)) ((d * 33554432 : Nat) : Int)) ((r1 * 32768 : Nat) : Int)) ((toldv a m : Nat) : Int)) ((rd * 128 : Nat) : Int)) ((r2 * 1048576 : Nat) : Int) = ((encw a b c d rd r1 r2 m : Nat) : Int) ∧ encw a b c d rd r1 r2 m < 4294967296 := by
 have hb := R.hb
 have pb : b &&& 127 = b := by rw [show 127 = 2 ^ 7 - 1 from rfl, Nat.and_two_pow_sub_one_eq_mod]; exact Nat.mod_eq_of_lt hb
 have pc : c * 4096 &&& 28672 = c * 4096 := piece' c 12 3 28672 (by decide +kernel) R.hc
 have pd : d * 33554432 &&& 4261412864 = d * 33554432 := piece' d 25 7 4261412864 (by decide +kernel) R.hd
 have p1 : r1 * 32768 &&& 1015808 = r1 * 32768 := piece' r1 15 5 1015808 (by decide +kernel) hr1
 have prd : rd * 128 &&& 3968 = rd * 128 := piece' rd 7 5 3968 (by decide +kernel) hrd
 have p2 : r2 * 1048576 &&& 32505856 = r2 * 1048576 := piece' r2 20 5 32505856 (by decide +kernel) hr2
 obtain ⟨tl, t1, t2, t3, t4, t5⟩ := told_mask a m
 have lc := R.hc
 have ld := R.hd
 have up := R.up
 have mid := R.mid
 have B1 : b < 4294967296 := by omega
 have B2 : c * 4096 < 4294967296 := piece_lt c 12 3 R.hc (by decide)
 have B3 : d * 33554432 < 4294967296 := piece_lt d 25 7 R.hd (by decide)
 have B4 : r1 * 32768 < 4294967296 := piece_lt r1 15 5 hr1 (by decide)
 have B6 : rd * 128 < 4294967296 := piece_lt rd 7 5 hrd (by decide)
 have B7 : r2 * 1048576 < 4294967296 := piece_lt r2 20 5 hr2 (by decide)
 rcases R.form with e | e | e | e | e | e | e
 ·obtain ⟨rfl, rfl⟩ := up (Or.inl e)
  obtain rfl := z1 (by rw [e]; rfl)
  obtain rfl := z2 (by rw [e]; rfl)
  exact chain7 _ _ _ _ _ _ _ 127 0 0 0 4294963200 3968 0 pb (zk _) (zk _) (zk _) (t1 (Or.inl e)) prd (zk _) B1 B2 B3 B4 tl B6 B7 (by decide +kernel)
 ·obtain ⟨rfl, rfl⟩ := up (Or.inr e)
  obtain rfl := z1 (by rw [e]; rfl)
  obtain rfl := z2 (by rw [e]; rfl)
  exact chain7 _ _ _ _ _ _ _ 127 0 0 0 4294963200 3968 0 pb (zk _) (zk _) (zk _) (t1 (Or.inr e)) prd (zk _) B1 B2 B3 B4 tl B6 B7 (by decide +kernel)
 ·obtain rfl := mid (Or.inl e)
  obtain rfl := z2 (by rw [e]; rfl)
  exact chain7 _ _ _ _ _ _ _ 127 28672 0 1015808 4293918720 3968 0 pb pc (zk _) p1 (t2 (Or.inl e)) prd (zk _) B1 B2 B3 B4 tl B6 B7 (by decide +kernel)
 ·obtain rfl := mid (Or.inr (Or.inr e))
  obtain rfl := zd (by rw [e]; rfl)
  exact chain7 _ _ _ _ _ _ _ 127 28672 0 1015808 4261416832 0 32505856 pb pc (zk _) p1 (t3 (Or.inr e)) (zk _) p2 B1 B2 B3 B4 tl B6 B7 (by decide +kernel)
 ·obtain rfl := mid (Or.inr (Or.inl e))
  obtain rfl := zd (by rw [e]; rfl)
  exact chain7 _ _ _ _ _ _ _ 127 28672 0 1015808 4261416832 0 32505856 pb pc (zk _) p1 (t3 (Or.inl e)) (zk _) p2 B1 B2 B3 B4 tl B6 B7 (by decide +kernel)
 ·obtain rfl := z2 (by rw [e]; rfl)
  exact chain7 _ _ _ _ _ _ _ 127 28672 4261412864 1015808 32505856 3968 0 pb pc pd p1 (t5 e (h72 e)) prd (zk _) B1 B2 B3 B4 tl B6 B7 (by decide +kernel)
 ·have t0 := t4 e
  have t6 : toldv a m &&& 0 = toldv a m := by rw [t0]; rfl
  exact chain7 _ _ _ _ _ _ _ 127 28672 4261412864 1015808 0 3968 32505856 pb pc pd p1 t6 prd p2 B1 B2 B3 B4 tl B6 B7 (by decide +kernel)
theorem or_nat (y z : Int) : ∃ x : Nat, x < 4294967296 ∧ Go.bits .or .u32 y z = (x : Int) := by
 refine ⟨(BitVec.ofInt 32 y ||| BitVec.ofInt 32 z).toNat, (BitVec.ofInt 32 y ||| BitVec.ofInt 32 z).isLt, ?_⟩
 show IntKind.u32.wrap (((BitVec.ofInt 32 y ||| BitVec.ofInt 32 z).toNat : Nat) : Int) = _
 rw [IntKind.wrap_u32]
 have := (BitVec.ofInt 32 y ||| BitVec.ofInt 32 z).isLt
 omega
theorem or_zero2 (y z : Int) : Go.bits .or .u32 (Go.bits .or .u32 y z) 0 = Go.bits .or .u32 y z := by
 obtain ⟨x, hx, e⟩ := or_nat y z
 rw [e, show (0 : Int) = ((0 : Nat) : Int) from rfl, u32_or_nat _ _ hx (by decide), Nat.or_zero]
theorem numb_72 (m : Int) (h : numb 72 m = true) : (m % 4294967296).toNat < 32 := by
 have := of_decide_eq_true (show decide (0 ≤ m ∧ m ≤ 31) = true from h)
 omega
theorem mul_c (x c : Nat) (hx : x < 4294967296) (h : x * c < 4294967296) : (((x : Int) % 4294967296) * (c : Int)) % 4294967296 = ((x * c : Nat) : Int) := by
 rw [Int.emod_eq_of_lt (a := (x : Int)) (by omega) (by omega), ← Int.natCast_mul, Int.emod_eq_of_lt (by omega) (by omega)]
theorem mul_d (x c : Nat) (h : x * c < 4294967296) : ((x : Int) * (c : Int)) % 4294967296 = ((x * c : Nat) : Int) := by
 rw [← Int.natCast_mul, Int.emod_eq_of_lt (by omega) (by omega)]
theorem em_of (m : Int) : m % 4294967296 = (((m % 4294967296).toNat : Nat) : Int) ∧ (m % 4294967296).toNat < 4294967296 := by omega
theorem right_e (op : Int) (h : op = 45 ∨ op = 46) (a1 a2 a3 a4 : Int) : rightv op a1 a2 a3 a4 = true ↔ (a1 = 0 ∧ a2 = 0 ∧ a3 = 0 ∧ a4 = 0) := by
 have e : frm op = 69 := by rcases h with rfl | rfl <;> rfl
 unfold rightv
 rw [e]
 unfold regv
 simp [hRd, hR1, hR2, numb]
theorem imm85 (w : Nat) : immv 85 w = ((w / 4096 : Nat) : Int) := rfl
theorem imm74 (w : Nat) : immv 74 w = sig (w / 2147483648 * 1048576 + w / 4096 % 256 * 4096 + w / 1048576 % 2 * 2048 + w / 2097152 % 1024 * 2) 21 := rfl
theorem imm73 (w : Nat) : immv 73 w = sig (w / 1048576) 12 := rfl
theorem imm83 (w : Nat) : immv 83 w = sig (w / 33554432 * 32 + w / 128 % 32) 12 := rfl
theorem imm66 (w : Nat) : immv 66 w = sig (w / 2147483648 * 4096 + w / 128 % 2 * 2048 + w / 33554432 % 64 * 32 + w / 256 % 16 * 2) 13 := rfl
theorem imm72 (w : Nat) : immv 72 w = ((w / 1048576 % 32 : Nat) : Int) := rfl
theorem sig21 (v : Nat) : sig v 21 = (v : Int) - (if v / 1048576 % 2 = 1 then 2097152 else 0) := rfl
theorem sig12 (v : Nat) : sig v 12 = (v : Int) - (if v / 2048 % 2 = 1 then 4096 else 0) := rfl
theorem sig13 (v : Nat) : sig v 13 = (v : Int) - (if v / 4096 % 2 = 1 then 8192 else 0) := rfl
theorem told74 (m : Nat) : toldv 74 m = m / 1048576 % 2 * 2147483648 + m / 4096 % 256 * 4096 + m / 2048 % 2 * 1048576 + m / 2 % 1024 * 2097152 := rfl
theorem told73 (m : Nat) : toldv 73 m = m % 4096 * 1048576 := rfl
theorem told83 (m : Nat) : toldv 83 m = m / 32 % 128 * 33554432 + m % 32 * 128 := rfl
theorem told66 (m : Nat) : toldv 66 m = m / 4096 % 2 * 2147483648 + m / 2048 % 2 * 128 + m / 32 % 64 * 33554432 + m / 2 % 16 * 256 := rfl
theorem w74 (b w t1 t2 t3 t4 rd : Nat) (hw : w < 4294967296) (hb : w % 128 = b) (h0 : rd = w / 128 % 32) (h1 : t1 = w / 2147483648) (h2 : t2 = w / 4096 % 256) (h3 : t3 = w / 1048576 % 2) (h4 : t4 = w / 2097152 % 1024) :
  b + 0 * 4096 + 0 * 33554432 + 0 * 32768 + (t1 * 2147483648 + t2 * 4096 + t3 * 1048576 + t4 * 2097152) + rd * 128 + 0 * 1048576 = w ∧ t1 < 2 ∧ t2 < 256 ∧ t3 < 2 ∧ t4 < 1024 := by omega
theorem m74 (t1 t2 t3 t4 v : Nat) (h1 : t1 < 2) (h2 : t2 < 256) (h3 : t3 < 2) (h4 : t4 < 1024) (hv : v = t1 * 1048576 + t2 * 4096 + t3 * 2048 + t4 * 2) : numb 74 (sig v 21) = true ∧
  ∀ m' : Nat, (m' : Int) = sig v 21 % 4294967296 → m' / 1048576 % 2 = t1 ∧ m' / 4096 % 256 = t2 ∧ m' / 2048 % 2 = t3 ∧ m' / 2 % 1024 = t4 := by
 rw [sig21]
 have hs : ((v : Int) - (if v / 1048576 % 2 = 1 then 2097152 else 0)) = (v : Int) - 2097152 * t1 := by split <;> omega
 rw [hs]
 refine ⟨decide_eq_true (by omega), fun m' e => ?_⟩
 have e2 : (m' : Int) = (v : Int) - 2097152 * t1 + 4294967296 * t1 := by omega
 clear e hs
 subst hv
 refine ⟨?_, ?_, ?_, ?_⟩ <;> omega
theorem m73 (v : Nat) (hv : v < 4096) : numb 73 (sig v 12) = true ∧ numb 83 (sig v 12) = true ∧ ∀ m' : Nat, (m' : Int) = sig v 12 % 4294967296 → m' % 4096 = v := by
 rw [sig12]
 refine ⟨decide_eq_true (by split <;> omega), decide_eq_true (by split <;> omega), fun m' e => ?_⟩
 revert e; split <;> intro e <;> omega
theorem w73 (b c w rd r1 v : Nat) (hw : w < 4294967296) (hb : w % 128 = b) (hc : w / 4096 % 8 = c) (h0 : rd = w / 128 % 32) (h1 : r1 = w / 32768 % 32) (hv : v = w / 1048576) :
  b + c * 4096 + 0 * 33554432 + r1 * 32768 + v * 1048576 + rd * 128 + 0 * 1048576 = w ∧ v < 4096 := by omega
theorem w83 (b c w r1 r2 t1 t2 : Nat) (hw : w < 4294967296) (hb : w % 128 = b) (hc : w / 4096 % 8 = c) (h1 : r1 = w / 32768 % 32) (h2 : r2 = w / 1048576 % 32) (h3 : t1 = w / 33554432) (h4 : t2 = w / 128 % 32) :
  b + c * 4096 + 0 * 33554432 + r1 * 32768 + (t1 * 33554432 + t2 * 128) + 0 * 128 + r2 * 1048576 = w ∧ t1 < 128 ∧ t2 < 32 := by omega
theorem w66 (b c w r1 r2 t1 t2 t3 t4 : Nat) (hw : w < 4294967296) (hb : w % 128 = b) (hc : w / 4096 % 8 = c) (h1 : r1 = w / 32768 % 32) (h2 : r2 = w / 1048576 % 32) (h3 : t1 = w / 2147483648) (h4 : t2 = w / 128 % 2) (h5 : t3 = w / 33554432 % 64) (h6 : t4 = w / 256 % 16) :
  b + c * 4096 + 0 * 33554432 + r1 * 32768 + (t1 * 2147483648 + t2 * 128 + t3 * 33554432 + t4 * 256) + 0 * 128 + r2 * 1048576 = w ∧ t1 < 2 ∧ t2 < 2 ∧ t3 < 64 ∧ t4 < 16 := by omega
theorem m66 (t1 t2 t3 t4 v : Nat) (h1 : t1 < 2) (h2 : t2 < 2) (h3 : t3 < 64) (h4 : t4 < 16) (hv : v = t1 * 4096 + t2 * 2048 + t3 * 32 + t4 * 2) : numb 66 (sig v 13) = true ∧
  ∀ m' : Nat, (m' : Int) = sig v 13 % 4294967296 → m' / 4096 % 2 = t1 ∧ m' / 2048 % 2 = t2 ∧ m' / 32 % 64 = t3 ∧ m' / 2 % 16 = t4 := by
 rw [sig13]
 have hs : ((v : Int) - (if v / 4096 % 2 = 1 then 8192 else 0)) = (v : Int) - 8192 * t1 := by split <;> omega
 rw [hs]
 refine ⟨decide_eq_true (by omega), fun m' e => ?_⟩
 have e2 : (m' : Int) = (v : Int) - 8192 * t1 + 4294967296 * t1 := by omega
 clear e hs
 subst hv
 refine ⟨?_, ?_, ?_, ?_⟩ <;> omega
theorem w72 (b c d w rd r1 : Nat) (hw : w < 4294967296) (hb : w % 128 = b) (hc : w / 4096 % 8 = c) (hd : w / 33554432 = d) (h0 : rd = w / 128 % 32) (h1 : r1 = w / 32768 % 32) :
  b + c * 4096 + d * 33554432 + r1 * 32768 + w / 1048576 % 32 % 4096 * 1048576 + rd * 128 + 0 * 1048576 = w := by omega
theorem w82 (b c d w rd r1 r2 : Nat) (hw : w < 4294967296) (hb : w % 128 = b) (hc : w / 4096 % 8 = c) (hd : w / 33554432 = d) (h0 : rd = w / 128 % 32) (h1 : r1 = w / 32768 % 32) (h2 : r2 = w / 1048576 % 32) :
  b + c * 4096 + d * 33554432 + r1 * 32768 + 0 + rd * 128 + r2 * 1048576 = w := by omega
theorem w85 (b w rd m' : Nat) (hw : w < 4294967296) (hb : w % 128 = b) (h0 : rd = w / 128 % 32) (e : m' = w / 4096) :
  b + 0 * 4096 + 0 * 33554432 + 0 * 32768 + m' % 1048576 * 4096 + rd * 128 + 0 * 1048576 = w := by omega
theorem nat_emod (x : Nat) (h : x < 4294967296) : ((x : Int) % 4294967296).toNat = x := by omega
theorem forth_row {n : Nat} {a : Int} {b c d : Nat} (R : Row n a b c d) (w : Nat) (hw : w < 4294967296) (h : tk n w) :
  numb a (immv a w) = true ∧ encw a b c d (if hRd a = true then w / 128 % 32 else 0) (if hR1 a = true then w / 32768 % 32 else 0) (if hR2 a = true then w / 1048576 % 32 else 0) (immv a w % 4294967296).toNat = w := by
 unfold tk tellsP at h
 rw [R.get] at h
 simp only at h
 have up := R.up
 have mid := R.mid
 rcases R.form with rfl | rfl | rfl | rfl | rfl | rfl | rfl
 ·obtain ⟨rfl, rfl⟩ := up (Or.inl rfl)
  have hb : w % 128 = b := by omega
  rw [imm85, nat_emod _ (by omega)]
  refine ⟨decide_eq_true (show 0 ≤ ((w / 4096 : Nat) : Int) ∧ ((w / 4096 : Nat) : Int) ≤ 1048575 by omega), ?_⟩
  exact w85 b w _ _ hw hb rfl rfl
 ·obtain ⟨rfl, rfl⟩ := up (Or.inr rfl)
  have hb : w % 128 = b := by omega
  obtain ⟨x0, x1, x2, x3, x4⟩ := w74 b w _ _ _ _ _ hw hb rfl rfl rfl rfl rfl
  obtain ⟨y1, y2⟩ := m74 _ _ _ _ _ x1 x2 x3 x4 rfl
  rw [imm74]
  obtain ⟨z1, z2, z3, z4⟩ := y2 _ (em_of _).1.symm
  refine ⟨y1, ?_⟩
  unfold encw
  rw [told74, z1, z2, z3, z4]
  exact x0
 ·obtain rfl := mid (Or.inl rfl)
  have hb : w % 128 = b := by omega
  have hc : w / 4096 % 8 = c := by omega
  obtain ⟨x0, x1⟩ := w73 b c w _ _ _ hw hb hc rfl rfl rfl
  obtain ⟨y1, _, y2⟩ := m73 _ x1
  rw [imm73]
  have z1 := y2 _ (em_of _).1.symm
  refine ⟨y1, ?_⟩
  unfold encw
  rw [told73, z1]
  exact x0
 ·obtain rfl := mid (Or.inr (Or.inr rfl))
  have hb : w % 128 = b := by omega
  have hc : w / 4096 % 8 = c := by omega
  obtain ⟨x0, x1, x2, x3, x4⟩ := w66 b c w _ _ _ _ _ _ hw hb hc rfl rfl rfl rfl rfl rfl
  obtain ⟨y1, y2⟩ := m66 _ _ _ _ _ x1 x2 x3 x4 rfl
  rw [imm66]
  obtain ⟨z1, z2, z3, z4⟩ := y2 _ (em_of _).1.symm
  refine ⟨y1, ?_⟩
  unfold encw
  rw [told66, z1, z2, z3, z4]
  exact x0
 ·obtain rfl := mid (Or.inr (Or.inl rfl))
  have hb : w % 128 = b := by omega
  have hc : w / 4096 % 8 = c := by omega
  obtain ⟨x0, x1, x2⟩ := w83 b c w _ _ _ _ hw hb hc rfl rfl rfl rfl
  have x3 : w / 33554432 * 32 + w / 128 % 32 < 4096 := by omega
  obtain ⟨_, y1, y2⟩ := m73 _ x3
  rw [imm83]
  have z1 := y2 _ (em_of _).1.symm
  refine ⟨y1, ?_⟩
  unfold encw
  have z2 (m v1 v2 : Nat) (h1 : v1 < 128) (h2 : v2 < 32) (h : m % 4096 = v1 * 32 + v2) : m / 32 % 128 = v1 ∧ m % 32 = v2 := by omega
  obtain ⟨z3, z4⟩ := z2 _ _ _ x1 x2 z1
  rw [told83, z3, z4]
  exact x0
 ·have hb : w % 128 = b := by omega
  have hc : w / 4096 % 8 = c := by omega
  have hd : w / 33554432 = d := by omega
  rw [imm72, nat_emod _ (by omega)]
  refine ⟨decide_eq_true (show 0 ≤ ((w / 1048576 % 32 : Nat) : Int) ∧ ((w / 1048576 % 32 : Nat) : Int) ≤ 31 by omega), ?_⟩
  exact w72 b c d w _ _ hw hb hc hd rfl rfl
 ·have hb : w % 128 = b := by omega
  have hc : w / 4096 % 8 = c := by omega
  have hd : w / 33554432 = d := by omega
  refine ⟨rfl, ?_⟩
  exact w82 b c d w _ _ _ hw hb hc hd rfl rfl rfl
theorem Decode_cases (w : Nat) (hw : w < 4294967296) : (∃ j, j < 47 ∧ tk j w ∧ ∀ k, 150 < k → inst_Decode.f k (w : Int) = some (decx j w)) ∨
  (w = 115 ∧ ∀ k, 150 < k → inst_Decode.f k (w : Int) = some (45, 0, 0, 0, 0, 0)) ∨ (w = 1048691 ∧ ∀ k, 150 < k → inst_Decode.f k (w : Int) = some (46, 0, 0, 0, 0, 0)) ∨
  (w ≠ 115 ∧ w ≠ 1048691 ∧ (∀ j, j < 47 → ¬ tk j w) ∧ ∀ k, 150 < k → inst_Decode.f k (w : Int) = some (0, 0, 0, 0, 0, 20)) := by
 by_cases h : ∃ j, j < 47 ∧ tk j w
 ·obtain ⟨j, h1, h2⟩ := h
  exact Or.inl ⟨j, h1, h2, fun k hk => Decode_some j w hw h1 h2 k hk⟩
 have h' : ∀ j, j < 47 → ¬ tk j w := fun j h1 h2 => h ⟨j, h1, h2⟩
 by_cases e1 : w = 115
 ·subst e1; exact Or.inr (Or.inl ⟨rfl, fun k _ => Decode_115 k⟩)
 by_cases e2 : w = 1048691
 ·subst e2; exact Or.inr (Or.inr (Or.inl ⟨rfl, fun k _ => Decode_ebreak k⟩))
 exact Or.inr (Or.inr (Or.inr ⟨e1, e2, h', fun k hk => Decode_none w hw e1 e2 h' k hk⟩))
theorem cast_if (p : Bool) (x : Nat) : (if p = true then (x : Int) else 0) = (((if p = true then x else 0) : Nat) : Int) := by cases p <;> rfl
theorem if_lt (p : Bool) (x : Nat) (h : x < 32) : (if p = true then x else 0) < 32 := by cases p <;> simp [h]
theorem if_zero (p : Bool) (x : Nat) (h : p = false) : (if p = true then x else 0) = 0 := by rw [h]; rfl
end Go.Proofs.Ytononmcodecmaaa.Q
