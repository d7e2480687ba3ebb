import Derived.Test.YtononmcodecmaaaJQx11
import Derived.Test.YtononmcodecmaaaJQx19
import Derived.Test.YtononmcodecmaaaJQx7
import Derived.Test.YtononmcodecmaaaJLA
import Derived.Test.YtononmcodecmaaaJLD
import Derived.Laws.BitsAllLaws
import Derived.Laws.BitsLemmas
/- Layers 1 and 2, plain: what the printed functions come to. -/
namespace Go.Proofs.Ytononmcodecmaaa.Q
open Go.RowKit Go.Proofs.YtononmcodecmaaaW.PrintWords Go.Proofs.YtononmcodecmaaaW.PrintLast Go.Proofs.YtononmcodecmaaaW.PrintMore
set_option linter.unusedVariables false
set_option linter.unusedSimpArgs false
theorem told_eq (f : Int) (m : Nat) (hm : m < 4294967296) (k : Nat) (hk : 80 < k) : inst_told.f k f (m : Int) = some ((toldv f m : Nat) : Int) := by
 have F (p n : Nat) (hp : p < 32) (h1 : 1 ≤ n) (hn : n ≤ 32 - p) := Field_may m p n hm hp h1 hn k (by omega)
 unfold inst_told.f toldv
 by_cases h1 : f = 85
 ·rw [if_pos h1, if_pos h1]; congr 1; omega
 rw [if_neg h1, if_neg h1]
 by_cases h2 : f = 74
 ·rw [if_pos h2, if_pos h2]
  have f1 : word_Field.f k (m : Int) 20 1 = some ((m / 2 ^ 20 % 2 ^ 1 : Nat) : Int) := F 20 1 (by decide) (by decide) (by decide)
  have l1 : m / 2 ^ 20 % 2 ^ 1 < 2 ^ 1 := Nat.mod_lt _ (by decide)
  have f2 : word_Field.f k (m : Int) 12 8 = some ((m / 2 ^ 12 % 2 ^ 8 : Nat) : Int) := F 12 8 (by decide) (by decide) (by decide)
  have l2 : m / 2 ^ 12 % 2 ^ 8 < 2 ^ 8 := Nat.mod_lt _ (by decide)
  have f3 : word_Field.f k (m : Int) 11 1 = some ((m / 2 ^ 11 % 2 ^ 1 : Nat) : Int) := F 11 1 (by decide) (by decide) (by decide)
  have l3 : m / 2 ^ 11 % 2 ^ 1 < 2 ^ 1 := Nat.mod_lt _ (by decide)
  have f4 : word_Field.f k (m : Int) 1 10 = some ((m / 2 ^ 1 % 2 ^ 10 : Nat) : Int) := F 1 10 (by decide) (by decide) (by decide)
  have l4 : m / 2 ^ 1 % 2 ^ 10 < 2 ^ 10 := Nat.mod_lt _ (by decide)
  rw [f1, obs, f2, obs, f3, obs, f4, obs]
  have s1 : shl .u32 ((m / 2 ^ 20 % 2 ^ 1 : Nat) : Int) 31 = _ := shl_small _ 31 1 l1 (by decide)
  have p1 := piece _ 31 1 l1
  have s2 : shl .u32 ((m / 2 ^ 12 % 2 ^ 8 : Nat) : Int) 12 = _ := shl_small _ 12 8 l2 (by decide)
  have p2 := piece _ 12 8 l2
  have s3 : shl .u32 ((m / 2 ^ 11 % 2 ^ 1 : Nat) : Int) 20 = _ := shl_small _ 20 1 l3 (by decide)
  have p3 := piece _ 20 1 l3
  have s4 : shl .u32 ((m / 2 ^ 1 % 2 ^ 10 : Nat) : Int) 21 = _ := shl_small _ 21 10 l4 (by decide)
  have p4 := piece _ 21 10 l4
  rw [s1, s2, s3, s4]
  clear s1 f1 s2 f2 s3 f3 s4 f4 F
  have b1 : m / 2 ^ 20 % 2 ^ 1 * 2 ^ 31 < 4294967296 := piece_lt _ 31 1 l1 (by decide)
  have b2 : m / 2 ^ 12 % 2 ^ 8 * 2 ^ 12 < 4294967296 := piece_lt _ 12 8 l2 (by decide)
  have b3 : m / 2 ^ 11 % 2 ^ 1 * 2 ^ 20 < 4294967296 := piece_lt _ 20 1 l3 (by decide)
  have b4 : m / 2 ^ 1 % 2 ^ 10 * 2 ^ 21 < 4294967296 := piece_lt _ 21 10 l4 (by decide)
  obtain ⟨e2, q2, r2⟩ := or_sum _ _ p1 p2 (by decide +kernel) b1 b2
  obtain ⟨e3, q3, r3⟩ := or_sum _ _ q2 p3 (by decide +kernel) r2 b3
  obtain ⟨e4, q4, r4⟩ := or_sum _ _ q3 p4 (by decide +kernel) r3 b4
  rw [u32_or_nat _ _ b1 b2, e2]
  rw [u32_or_nat _ _ r2 b3, e3]
  rw [u32_or_nat _ _ r3 b4, e4]
 rw [if_neg h2, if_neg h2]
 by_cases h3 : f = 73
 ·rw [if_pos h3, if_pos (show f = 73 ∨ f = 72 by omega)]; congr 1; omega
 rw [if_neg h3]
 by_cases h4 : f = 72
 ·rw [if_pos h4, if_pos (show f = 73 ∨ f = 72 by omega)]; congr 1; omega
 rw [if_neg h4, if_neg (show ¬ (f = 73 ∨ f = 72) by omega)]
 by_cases h5 : f = 83
 ·rw [if_pos h5, if_pos h5]
  have f1 : word_Field.f k (m : Int) 5 7 = some ((m / 2 ^ 5 % 2 ^ 7 : Nat) : Int) := F 5 7 (by decide) (by decide) (by decide)
  have l1 : m / 2 ^ 5 % 2 ^ 7 < 2 ^ 7 := Nat.mod_lt _ (by decide)
  have f2 : word_Field.f k (m : Int) 0 5 = some ((m / 2 ^ 0 % 2 ^ 5 : Nat) : Int) := F 0 5 (by decide) (by decide) (by decide)
  have l2 : m / 2 ^ 0 % 2 ^ 5 < 2 ^ 5 := Nat.mod_lt _ (by decide)
  rw [f1, obs, f2, obs]
  have s1 : shl .u32 ((m / 2 ^ 5 % 2 ^ 7 : Nat) : Int) 25 = _ := shl_small _ 25 7 l1 (by decide)
  have p1 := piece _ 25 7 l1
  have s2 : shl .u32 ((m / 2 ^ 0 % 2 ^ 5 : Nat) : Int) 7 = _ := shl_small _ 7 5 l2 (by decide)
  have p2 := piece _ 7 5 l2
  rw [s1, s2]
  clear s1 f1 s2 f2 F
  have b1 : m / 2 ^ 5 % 2 ^ 7 * 2 ^ 25 < 4294967296 := piece_lt _ 25 7 l1 (by decide)
  have b2 : m / 2 ^ 0 % 2 ^ 5 * 2 ^ 7 < 4294967296 := piece_lt _ 7 5 l2 (by decide)
  obtain ⟨e2, q2, r2⟩ := or_sum _ _ p1 p2 (by decide +kernel) b1 b2
  rw [u32_or_nat _ _ b1 b2, e2]
  rw [Nat.pow_zero, Nat.div_one]
 rw [if_neg h5, if_neg h5]
 by_cases h6 : f = 66
 ·rw [if_pos h6, if_pos h6]
  have f1 : word_Field.f k (m : Int) 12 1 = some ((m / 2 ^ 12 % 2 ^ 1 : Nat) : Int) := F 12 1 (by decide) (by decide) (by decide)
  have l1 : m / 2 ^ 12 % 2 ^ 1 < 2 ^ 1 := Nat.mod_lt _ (by decide)
  have f2 : word_Field.f k (m : Int) 11 1 = some ((m / 2 ^ 11 % 2 ^ 1 : Nat) : Int) := F 11 1 (by decide) (by decide) (by decide)
  have l2 : m / 2 ^ 11 % 2 ^ 1 < 2 ^ 1 := Nat.mod_lt _ (by decide)
  have f3 : word_Field.f k (m : Int) 5 6 = some ((m / 2 ^ 5 % 2 ^ 6 : Nat) : Int) := F 5 6 (by decide) (by decide) (by decide)
  have l3 : m / 2 ^ 5 % 2 ^ 6 < 2 ^ 6 := Nat.mod_lt _ (by decide)
  have f4 : word_Field.f k (m : Int) 1 4 = some ((m / 2 ^ 1 % 2 ^ 4 : Nat) : Int) := F 1 4 (by decide) (by decide) (by decide)
  have l4 : m / 2 ^ 1 % 2 ^ 4 < 2 ^ 4 := Nat.mod_lt _ (by decide)
  rw [f1, obs, f2, obs, f3, obs, f4, obs]
  have s1 : shl .u32 ((m / 2 ^ 12 % 2 ^ 1 : Nat) : Int) 31 = _ := shl_small _ 31 1 l1 (by decide)
  have p1 := piece _ 31 1 l1
  have s2 : shl .u32 ((m / 2 ^ 11 % 2 ^ 1 : Nat) : Int) 7 = _ := shl_small _ 7 1 l2 (by decide)
  have p2 := piece _ 7 1 l2
  have s3 : shl .u32 ((m / 2 ^ 5 % 2 ^ 6 : Nat) : Int) 25 = _ := shl_small _ 25 6 l3 (by decide)
  have p3 := piece _ 25 6 l3
  have s4 : shl .u32 ((m / 2 ^ 1 % 2 ^ 4 : Nat) : Int) 8 = _ := shl_small _ 8 4 l4 (by decide)
  have p4 := piece _ 8 4 l4
  rw [s1, s2, s3, s4]
  clear s1 f1 s2 f2 s3 f3 s4 f4 F
  have b1 : m / 2 ^ 12 % 2 ^ 1 * 2 ^ 31 < 4294967296 := piece_lt _ 31 1 l1 (by decide)
  have b2 : m / 2 ^ 11 % 2 ^ 1 * 2 ^ 7 < 4294967296 := piece_lt _ 7 1 l2 (by decide)
  have b3 : m / 2 ^ 5 % 2 ^ 6 * 2 ^ 25 < 4294967296 := piece_lt _ 25 6 l3 (by decide)
  have b4 : m / 2 ^ 1 % 2 ^ 4 * 2 ^ 8 < 4294967296 := piece_lt _ 8 4 l4 (by decide)
  obtain ⟨e2, q2, r2⟩ := or_sum _ _ p1 p2 (by decide +kernel) b1 b2
  obtain ⟨e3, q3, r3⟩ := or_sum _ _ q2 p3 (by decide +kernel) r2 b3
  obtain ⟨e4, q4, r4⟩ := or_sum _ _ q3 p4 (by decide +kernel) r3 b4
  rw [u32_or_nat _ _ b1 b2, e2]
  rw [u32_or_nat _ _ r2 b3, e3]
  rw [u32_or_nat _ _ r3 b4, e4]
 rw [if_neg h6, if_neg h6]
 rfl
theorem Encode_some {n : Nat} {a : Int} {b c d : Nat} (R : Row n a b c d) (hn : n < 45) (rd r1 r2 : Nat) (m : Int) (hrd : rd < 32) (hr1 : r1 < 32) (hr2 : r2 < 32)
  (zd : hRd a = false → rd = 0) (z1 : hR1 a = false → r1 = 0) (z2 : hR2 a = false → r2 = 0) (hm : numb a m = true) (k : Nat) (hk : 90 < k) :
  inst_Encode.f k (n : Int) (rd : Int) (r1 : Int) (r2 : Int) m = some (((encw a b c d rd r1 r2 (m % 4294967296).toNat : Nat) : Int), 0) := by
 have hr : rightv (n : Int) (rd : Int) (r1 : Int) (r2 : Int) m = true := by
  rw [right_row R hn, regv_of _ _ hrd zd, regv_of _ _ hr1 z1, regv_of _ _ hr2 z2, hm]; rfl
 have h72 : a = 72 → (m % 4294967296).toNat < 32 := fun e => by rw [e] at hm; exact numb_72 m hm
 obtain ⟨em, lm⟩ := em_of m
 generalize (m % 4294967296).toNat = m' at em lm h72 ⊢
 have s1 : (((rd : Int) % 4294967296) * 128) % 4294967296 = ((rd * 128 : Nat) : Int) := mul_c rd 128 (by omega) (by omega)
 have s2 : (((r1 : Int) % 4294967296) * 32768) % 4294967296 = ((r1 * 32768 : Nat) : Int) := mul_c r1 32768 (by omega) (by omega)
 have s3 : (((r2 : Int) % 4294967296) * 1048576) % 4294967296 = ((r2 * 1048576 : Nat) : Int) := mul_c r2 1048576 (by omega) (by omega)
 have hc := R.hc
 have hd := R.hd
 have s4 : ((c : Int) * 4096) % 4294967296 = ((c * 4096 : Nat) : Int) := mul_d c 4096 (by omega)
 have s5 : ((d : Int) * 33554432) % 4294967296 = ((d * 33554432 : Nat) : Int) := mul_d d 33554432 (by omega)
 have ne1 : ¬ ((n : Int) = 45) := by omega
 have ne2 : ¬ ((n : Int) = 46) := by omega
 have ne3 : (0 : Int) ≤ (n : Int) ∧ (n : Int) < 47 := by omega
 have ec := (enc_chain R rd r1 r2 m' hrd hr1 hr2 zd z1 z2 h72).1
 unfold inst_Encode.f
 rw [Right_eq _ _ _ _ _ k (by omega), obs, hr, if_pos rfl, if_neg ne1, if_neg ne2, if_pos ne3, Int.toNat_natCast, R.get]
 simp only
 rw [em, told_eq a m' lm k (by omega), obs, has_eq a k (by omega), obs, obs, obs, s1, s2, s3, s4, s5]
 rw [← ec]
 simp only
 congr 2
 cases h1 : hRd a
 ·rw [zd h1]
  cases h2 : hR2 a
  ·rw [z2 h2]; simp only [Nat.zero_mul, Int.natCast_zero, or_zero2, Bool.false_eq_true, if_false]
  ·simp only [Nat.zero_mul, Int.natCast_zero, or_zero2, Bool.false_eq_true, if_false, if_true]
 ·cases h2 : hR2 a
  ·rw [z2 h2]; simp only [Nat.zero_mul, Int.natCast_zero, or_zero2, Bool.false_eq_true, if_false, if_true]
  ·simp only [if_true]
theorem Encode_e (op : Int) (h : op = 45 ∨ op = 46) (k : Nat) (hk : 90 < k) : inst_Encode.f k op 0 0 0 0 = some ((if op = 45 then 115 else 1048691), 0) := by
 unfold inst_Encode.f
 rw [Right_eq _ _ _ _ _ k (by omega), obs, (right_e op h 0 0 0 0).mpr ⟨rfl, rfl, rfl, rfl⟩]
 rcases h with rfl | rfl <;> rfl
theorem Dec_enc (w : Nat) (hw : w < 4294967296) : (∃ a0 a1 a2 a3 a4, (∀ k, 150 < k → inst_Decode.f k (w : Int) = some (a0, a1, a2, a3, a4, 0)) ∧ (∀ k, 150 < k → inst_Encode.f k a0 a1 a2 a3 a4 = some ((w : Int), 0)) ∧ rightv a0 a1 a2 a3 a4 = true) ∨
  (∀ k, 150 < k → inst_Decode.f k (w : Int) = some (0, 0, 0, 0, 0, 20)) := by
 rcases Decode_cases w hw with ⟨j, j1, j2, j3⟩ | ⟨j1, j3⟩ | ⟨j1, j3⟩ | ⟨_, _, _, j3⟩
 ·left
  have hn := (tk_not j w j1 j2).2
  obtain ⟨a, b, c, d, R⟩ := row_at j hn
  obtain ⟨f1, f2⟩ := forth_row R w hw j2
  refine ⟨_, _, _, _, _, j3, ?_⟩
  rw [R.get]
  simp only
  rw [cast_if, cast_if, cast_if]
  have l1 := if_lt (hRd a) (w / 128 % 32) (Nat.mod_lt _ (by decide))
  have l2 := if_lt (hR1 a) (w / 32768 % 32) (Nat.mod_lt _ (by decide))
  have l3 := if_lt (hR2 a) (w / 1048576 % 32) (Nat.mod_lt _ (by decide))
  have z1 := if_zero (hRd a) (w / 128 % 32)
  have z2 := if_zero (hR1 a) (w / 32768 % 32)
  have z3 := if_zero (hR2 a) (w / 1048576 % 32)
  constructor
  ·intro k hk
   rw [Encode_some R hn _ _ _ _ l1 l2 l3 z1 z2 z3 f1 k (by omega), f2]
  ·rw [right_row R hn, regv_of _ _ l1 z1, regv_of _ _ l2 z2, regv_of _ _ l3 z3, f1]; rfl
 ·subst j1
  left
  exact ⟨45, 0, 0, 0, 0, j3, fun k hk => Encode_e 45 (Or.inl rfl) k (by omega), (right_e 45 (Or.inl rfl) 0 0 0 0).mpr ⟨rfl, rfl, rfl, rfl⟩⟩
 ·subst j1
  left
  exact ⟨46, 0, 0, 0, 0, j3, fun k hk => Encode_e 46 (Or.inr rfl) k (by omega), (right_e 46 (Or.inr rfl) 0 0 0 0).mpr ⟨rfl, rfl, rfl, rfl⟩⟩
 ·exact Or.inr j3
end Go.Proofs.Ytononmcodecmaaa.Q
