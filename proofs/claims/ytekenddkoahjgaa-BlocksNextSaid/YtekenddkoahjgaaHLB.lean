import Derived.Test.YtekenddkoahjgaaHQx10
import Derived.Test.YtekenddkoahjgaaHQx17
import Derived.Test.YtekenddkoahjgaaHQx37
import Derived.Test.YtekenddkoahjgaaHQx9
import Derived.Test.YtekenddkoahjgaaHLA
import Derived.Test.YtekenddkoahjgaaHLD
import Derived.Laws.BitsAllLaws
import Derived.Laws.BitsLemmas
/- Layers 1 and 2, plain: what the printed functions come to. -/
namespace Go.Proofs.Ytekenddkoahjgaa.Q
open Go.RowKit Go.Proofs.YtekenddkoahjgaaW.PrintWords Go.Proofs.YtekenddkoahjgaaW.PrintLast Go.Proofs.YtekenddkoahjgaaW.PrintMore
set_option linter.unusedVariables false
set_option linter.unusedSimpArgs false
theorem told_eq (f : Int) (m : Nat) (hm : m < 4294967296) (k : Nat) (hk : 80 < k) : inst_told.f k f (m : Int) = some ((toldv f m : Nat) : Int) := by
 have F (p n : Nat) (hp : p < 32) (h1 : 1 ≤ n) (hn : n ≤ 32 - p) := Field_may m p n hm hp h1 hn k (by omega)
 unfold inst_told.f toldv
 by_cases h1 : f = 85
 ·rw [if_pos h1, if_pos h1]; congr 1; omega
 rw [if_neg h1, if_neg h1]
 by_cases h2 : f = 74
 ·rw [if_pos h2, if_pos h2]
  have f1 : word_Field.f k (m : Int) 20 1 = some ((m / 2 ^ 20 % 2 ^ 1 : Nat) : Int) := F 20 1 (by decide) (by decide) (by decide)
  have l1 : m / 2 ^ 20 % 2 ^ 1 < 2 ^ 1 := Nat.mod_lt _ (by decide)
  have f2 : word_Field.f k (m : Int) 12 8 = some ((m / 2 ^ 12 % 2 ^ 8 : Nat) : Int) := F 12 8 (by decide) (by decide) (by decide)
  have l2 : m / 2 ^ 12 % 2 ^ 8 < 2 ^ 8 := Nat.mod_lt _ (by decide)
  have f3 : word_Field.f k (m : Int) 11 1 = some ((m / 2 ^ 11 % 2 ^ 1 : Nat) : Int) := F 11 1 (by decide) (by decide) (by decide)
  have l3 : m / 2 ^ 11 % 2 ^ 1 < 2 ^ 1 := Nat.mod_lt _ (by decide)
  have f4 : word_Field.f k (m : Int) 1 10 = some ((m / 2 ^ 1 % 2 ^ 10 : Nat) : Int) := F 1 10 (by decide) (by decide) (by decide)
  have l4 : m / 2 ^ 1 % 2 ^ 10 < 2 ^ 10 := Nat.mod_lt _ (by decide)
  rw [f1, obs, f2, obs, f3, obs, f4, obs]
  have s1 : shl .u32 ((m / 2 ^ 20 % 2 ^ 1 : Nat) : Int) 31 = _ := shl_small _ 31 1 l1 (by decide)
  have p1 := piece _ 31 1 l1
  have s2 : shl .u32 ((m / 2 ^ 12 % 2 ^ 8 : Nat) : Int) 12 = _ := shl_small _ 12 8 l2 (by decide)
  have p2 := piece _ 12 8 l2
  have s3 : shl .u32 ((m / 2 ^ 11 % 2 ^ 1 : Nat) : Int) 20 = _ := shl_small _ 20 1 l3 (by decide)
  have p3 := piece _ 20 1 l3
  have s4 : shl .u32 ((m / 2 ^ 1 % 2 ^ 10 : Nat) : Int) 21 = _ := shl_small _ 21 10 l4 (by decide)
  have p4 := piece _ 21 10 l4
  rw [s1, s2, s3, s4]
  clear s1 f1 s2 f2 s3 f3 s4 f4 F
  have b1 : m / 2 ^ 20 % 2 ^ 1 * 2 ^ 31 < 4294967296 := piece_lt _ 31 1 l1 (by decide)
  have b2 : m / 2 ^ 12 % 2 ^ 8 * 2 ^ 12 < 4294967296 := piece_lt _ 12 8 l2 (by decide)
  have b3 : m / 2 ^ 11 % 2 ^ 1 * 2 ^ 20 < 4294967296 := piece_lt _ 20 1 l3 (by decide)
  have b4 : m / 2 ^ 1 % 2 ^ 10 * 2 ^ 21 < 4294967296 := piece_lt _ 21 10 l4 (by decide)
  obtain ⟨e2, q2, r2⟩ := or_sum _ _ p1 p2 (by decide +kernel) b1 b2
  obtain ⟨e3, q3, r3⟩ := or_sum _ _ q2 p3 (by decide +kernel) r2 b3
  obtain ⟨e4, q4, r4⟩ := or_sum _ _ q3 p4 (by decide +kernel) r3 b4
  rw [u32_or_nat _ _ b1 b2, e2]
  rw [u32_or_nat _ _ r2 b3, e3]
  rw [u32_or_nat _ _ r3 b4, e4]
 rw [if_neg h2, if_neg h2]
 by_cases h3 : f = 73
 ·rw [if_pos h3, if_pos (show f = 73 ∨ f = 72 by omega)]; congr 1; omega
 rw [if_neg h3]
 by_cases h4 : f = 72
 ·rw [if_pos h4, if_pos (show f = 73 ∨ f = 72 by omega)]; congr 1; omega
 rw [if_neg h4, if_neg (show ¬ (f = 73 ∨ f = 72) by omega)]
 by_cases h5 : f = 83
 ·rw [if_pos h5, if_pos h5]
  have f1 : word_Field.f k (m : Int) 5 7 = some ((m / 2 ^ 5 % 2 ^ 7 : Nat) : Int) := F 5 7 (by decide) (by decide) (by decide)
  have l1 : m / 2 ^ 5 % 2 ^ 7 < 2 ^ 7 := Nat.mod_lt _ (by decide)
  have f2 : word_Field.f k (m : Int) 0 5 = some ((m / 2 ^ 0 % 2 ^ 5 : Nat) : Int) := F 0 5 (by decide) (by decide) (by decide)
  have l2 : m / 2 ^ 0 % 2 ^ 5 < 2 ^ 5 := Nat.mod_lt _ (by decide)
  rw [f1, obs, f2, obs]
  have s1 : shl .u32 ((m / 2 ^ 5 % 2 ^ 7 : Nat) : Int) 25 = _ := shl_small _ 25 7 l1 (by decide)
  have p1 := piece _ 25 7 l1
  have s2 : shl .u32 ((m / 2 ^ 0 % 2 ^ 5 : Nat) : Int) 7 = _ := shl_small _ 7 5 l2 (by decide)
  have p2 := piece _ 7 5 l2
  rw [s1, s2]
  clear s1 f1 s2 f2 F
  have b1 : m / 2 ^ 5 % 2 ^ 7 * 2 ^ 25 < 4294967296 := piece_lt _ 25 7 l1 (by decide)
  have b2 : m / 2 ^ 0 % 2 ^ 5 * 2 ^ 7 < 4294967296 := piece_lt _ 7 5 l2 (by decide)
  obtain ⟨e2, q2, r2⟩ := or_sum _ _ p1 p2 (by decide +kernel) b1 b2
  rw [u32_or_nat _ _ b1 b2, e2]
  rw [Nat.pow_zero, Nat.div_one]
 rw [if_neg h5, if_neg h5]
 by_cases h6 : f = 66
 ·rw [if_pos h6, if_pos h6]
  have f1 : word_Field.f k (m : Int) 12 1 = some ((m / 2 ^ 12 % 2 ^ 1 : Nat) : Int) := F 12 1 (by decide) (by decide) (by decide)
  have l1 : m / 2 ^ 12 % 2 ^ 1 < 2 ^ 1 := Nat.mod_lt _ (by decide)
  have f2 : word_Field.f k (m : Int) 11 1 = some ((m / 2 ^ 11 % 2 ^ 1 : Nat) : Int) := F 11 1 (by decide) (by decide) (by decide)
  have l2 : m / 2 ^ 11 % 2 ^ 1 < 2 ^ 1 := Nat.mod_lt _ (by decide)
  have f3 : word_Field.f k (m : Int) 5 6 = some ((m / 2 ^ 5 % 2 ^ 6 : Nat) : Int) := F 5 6 (by decide) (by decide) (by decide)
  have l3 : m / 2 ^ 5 % 2 ^ 6 < 2 ^ 6 := Nat.mod_lt _ (by decide)
  have f4 : word_Field.f k (m : Int) 1 4 = some ((m / 2 ^ 1 % 2 ^ 4 : Nat) : Int) := F 1 4 (by decide) (by decide) (by decide)
  have l4 : m / 2 ^ 1 % 2 ^ 4 < 2 ^ 4 := Nat.mod_lt _ (by decide)
  rw [f1, obs, f2, obs, f3, obs, f4, obs]
  have s1 : shl .u32 ((m / 2 ^ 12 % 2 ^ 1 : Nat) : Int) 31 = _ := shl_small _ 31 1 l1 (by decide)
  have p1 := piece _ 31 1 l1
  have s2 : shl .u32 ((m / 2 ^ 11 % 2 ^ 1 : Nat) : Int) 7 = _ := shl_small _ 7 1 l2 (by decide)
  have p2 := piece _ 7 1 l2
  have s3 : shl .u32 ((m / 2 ^ 5 % 2 ^ 6 : Nat) : Int) 25 = _ := shl_small _ 25 6 l3 (by decide)
  have p3 := piece _ 25 6 l3
  have s4 : shl .u32 ((m / 2 ^ 1 % 2 ^ 4 : Nat) : Int) 8 = _ := shl_small _ 8 4 l4 (by decide)
  have p4 := piece _ 8 4 l4
  rw [s1, s2, s3, s4]
  clear s1 f1 s2 f2 s3 f3 s4 f4 F
  have b1 : m / 2 ^ 12 % 2 ^ 1 * 2 ^ 31 < 4294967296 := piece_lt _ 31 1 l1 (by decide)
  have b2 : m / 2 ^ 11 % 2 ^ 1 * 2 ^ 7 < 4294967296 := piece_lt _ 7 1 l2 (by decide)
  have b3 : m / 2 ^ 5 % 2 ^ 6 * 2 ^ 25 < 4294967296 := piece_lt _ 25 6 l3 (by decide)
  have b4 : m / 2 ^ 1 % 2 ^ 4 * 2 ^ 8 < 4294967296 := piece_lt _ 8 4 l4 (by decide)
  obtain ⟨e2, q2, r2⟩ := or_sum _ _ p1 p2 (by decide +kernel) b1 b2
  obtain ⟨e3, q3, r3⟩ := or_sum _ _ q2 p3 (by decide +kernel) r2 b3
  obtain ⟨e4, q4, r4⟩ := or_sum _ _ q3 p4 (by decide +kernel) r3 b4
  rw [u32_or_nat _ _ b1 b2, e2]
  rw [u32_or_nat _ _ r2 b3, e3]
  rw [u32_or_nat _ _ r3 b4, e4]
 rw [if_neg h6, if_neg h6]
 rfl
theorem Encode_some {n : Nat} {a : Int} {b c d : Nat} (R : Row n a b c d) (hn : n < 45) (rd r1 r2 : Nat) (m : Int) (hrd : rd < 32) (hr1 : r1 < 32) (hr2 : r2 < 32)
  (zd : hRd a = false → rd = 0) (z1 : hR1 a = false → r1 = 0) (z2 : hR2 a = false → r2 = 0) (hm : numb a m = true) (k : Nat) (hk : 90 < k) :
  inst_Encode.f k (n : Int) (rd : Int) (r1 : Int) (r2 : Int) m = some (((encw a b c d rd r1 r2 (m % 4294967296).toNat : Nat) : Int), 0) := by
 have hr : rightv (n : Int) (rd : Int) (r1 : Int) (r2 : Int) m = true := by
  rw [right_row R hn, regv_of _ _ hrd zd, regv_of _ _ hr1 z1, regv_of _ _ hr2 z2, hm]; rfl
 have h72 : a = 72 → (m % 4294967296).toNat < 32 := fun e => by rw [e] at hm; exact numb_72 m hm
 obtain ⟨em, lm⟩ := em_of m
 generalize (m % 4294967296).toNat = m' at em lm h72 ⊢
 have s1 : (((rd : Int) % 4294967296) * 128) % 4294967296 = ((rd * 128 : Nat) : Int) := mul_c rd 128 (by omega) (by omega)
 have s2 : (((r1 : Int) % 4294967296) * 32768) % 4294967296 = ((r1 * 32768 : Nat) : Int) := mul_c r1 32768 (by omega) (by omega)
 have s3 : (((r2 : Int) % 4294967296) * 1048576) % 4294967296 = ((r2 * 1048576 : Nat) : Int) := mul_c r2 1048576 (by omega) (by omega)
 have hc := R.hc
 have hd := R.hd
 have s4 : ((c : Int) * 4096) % 4294967296 = ((c * 4096 : Nat) : Int) := mul_d c 4096 (by omega)
 have s5 : ((d : Int) * 33554432) % 4294967296 = ((d * 33554432 : Nat) : Int) := mul_d d 33554432 (by omega)
 have ne1 : ¬ ((n : Int) = 45) := by omega
 have ne2 : ¬ ((n : Int) = 46) := by omega
 have ne3 : (0 : Int) ≤ (n : Int) ∧ (n : Int) < 47 := by omega
 have ec := (enc_chain R rd r1 r2 m' hrd hr1 hr2 zd z1 z2 h72).1
 unfold inst_Encode.f
 rw [Right_eq _ _ _ _ _ k (by omega), obs, hr, if_pos rfl, if_neg ne1, if_neg ne2, if_pos ne3, Int.toNat_natCast, R.get]
 simp only
 rw [em, told_eq a m' lm k (by omega), obs, has_eq a k (by omega), obs, obs, obs, s1, s2, s3, s4, s5]
 rw [← ec]
 simp only
 congr 2
 cases h1 : hRd a
 ·rw [zd h1]
  cases h2 : hR2 a
  ·rw [z2 h2]; simp only [Nat.zero_mul, Int.natCast_zero, or_zero2, Bool.false_eq_true, if_false]
  ·simp only [Nat.zero_mul, Int.natCast_zero, or_zero2, Bool.false_eq_true, if_false, if_true]
 ·cases h2 : hR2 a
  ·rw [z2 h2]; simp only [Nat.zero_mul, Int.natCast_zero, or_zero2, Bool.false_eq_true, if_false, if_true]
  ·simp only [if_true]
theorem Encode_not (a0 a1 a2 a3 a4 : Int) (h : rightv a0 a1 a2 a3 a4 = false) (k : Nat) (hk : 90 < k) : inst_Encode.f k a0 a1 a2 a3 a4 = some (0, 20) := by
 unfold inst_Encode.f
 rw [Right_eq _ _ _ _ _ k (by omega), obs, h]
 rfl
theorem Encode_e (op : Int) (h : op = 45 ∨ op = 46) (k : Nat) (hk : 90 < k) : inst_Encode.f k op 0 0 0 0 = some ((if op = 45 then 115 else 1048691), 0) := by
 unfold inst_Encode.f
 rw [Right_eq _ _ _ _ _ k (by omega), obs, (right_e op h 0 0 0 0).mpr ⟨rfl, rfl, rfl, rfl⟩]
 rcases h with rfl | rfl <;> rfl
theorem Enc_cases (a0 a1 a2 a3 a4 : Int) : (rightv a0 a1 a2 a3 a4 = true ∧ ∃ w : Nat, w < 4294967296 ∧ ∀ k, 150 < k → inst_Encode.f k a0 a1 a2 a3 a4 = some ((w : Int), 0) ∧ inst_Decode.f k (w : Int) = some (a0, a1, a2, a3, a4, 0)) ∨
  (rightv a0 a1 a2 a3 a4 = false ∧ ∀ k, 150 < k → inst_Encode.f k a0 a1 a2 a3 a4 = some (0, 20)) := by
 cases hr : rightv a0 a1 a2 a3 a4 with
 | false => exact Or.inr ⟨rfl, fun k hk => Encode_not _ _ _ _ _ hr k (by omega)⟩
 | true =>
  refine Or.inl ⟨rfl, ?_⟩
  have hin : 0 ≤ a0 ∧ a0 < 47 := by
   apply Classical.byContradiction
   intro h
   rw [right_out a0 a1 a2 a3 a4 h] at hr
   cases hr
  by_cases h45 : a0 < 45
  ·obtain ⟨n, rfl⟩ := Int.eq_ofNat_of_zero_le hin.1
   have hn : n < 45 := by omega
   obtain ⟨a, b, c, d, R⟩ := row_at n hn
   rw [right_row R hn] at hr
   simp only [Bool.and_eq_true] at hr
   obtain ⟨e1, e2, e3, e4⟩ := hr
   obtain ⟨rd, rfl, hrd, zd⟩ := regv_nat _ _ e1
   obtain ⟨r1, rfl, hr1, z1⟩ := regv_nat _ _ e2
   obtain ⟨r2, rfl, hr2, z2⟩ := regv_nat _ _ e3
   have h72 : a = 72 → (a4 % 4294967296).toNat < 32 := fun e => by rw [e] at e4; exact numb_72 a4 e4
   have hl := (enc_chain R rd r1 r2 (a4 % 4294967296).toNat hrd hr1 hr2 zd z1 z2 h72).2
   obtain ⟨t1, t2⟩ := back_row R (fun e => d72 n hn a b c d R e) rd r1 r2 a4 hrd hr1 hr2 zd z1 z2 e4
   refine ⟨_, hl, fun k hk => ⟨Encode_some R hn rd r1 r2 a4 hrd hr1 hr2 zd z1 z2 e4 k (by omega), ?_⟩⟩
   rw [Decode_some n _ hl (by omega) t1 k hk, t2]
  ·rcases (show a0 = 45 ∨ a0 = 46 by omega) with rfl | rfl
   ·obtain ⟨rfl, rfl, rfl, rfl⟩ := (right_e 45 (Or.inl rfl) a1 a2 a3 a4).mp hr
    exact ⟨115, by decide, fun k hk => ⟨Encode_e 45 (Or.inl rfl) k (by omega), Decode_115 k⟩⟩
   ·obtain ⟨rfl, rfl, rfl, rfl⟩ := (right_e 46 (Or.inr rfl) a1 a2 a3 a4).mp hr
    exact ⟨1048691, by decide, fun k hk => ⟨Encode_e 46 (Or.inr rfl) k (by omega), Decode_ebreak k⟩⟩
theorem rEncode_eq (a0 a1 a2 a3 a4 : Int) : r02_Encode.f 200 a0 a1 a2 a3 a4 = inst_Encode.f 200 a0 a1 a2 a3 a4 := by
 cases hr : rightv a0 a1 a2 a3 a4 with
 | false => rw [rEncode_not _ _ _ _ _ hr, Encode_not _ _ _ _ _ hr 200 (by omega)]
 | true =>
  have hin : 0 ≤ a0 ∧ a0 < 47 := by
   apply Classical.byContradiction
   intro h
   rw [right_out a0 a1 a2 a3 a4 h] at hr
   cases hr
  by_cases h45 : a0 < 45
  ·obtain ⟨n, rfl⟩ := Int.eq_ofNat_of_zero_le hin.1
   have hn : n < 45 := by omega
   obtain ⟨a, b, c, d, R⟩ := row_at n hn
   rw [right_row R hn] at hr
   simp only [Bool.and_eq_true] at hr
   obtain ⟨e1, e2, e3, e4⟩ := hr
   obtain ⟨rd, rfl, hrd, zd⟩ := regv_nat _ _ e1
   obtain ⟨r1, rfl, hr1, z1⟩ := regv_nat _ _ e2
   obtain ⟨r2, rfl, hr2, z2⟩ := regv_nat _ _ e3
   rw [rEncode_some R hn rd r1 r2 a4 hrd hr1 hr2 zd z1 z2 e4, Encode_some R hn rd r1 r2 a4 hrd hr1 hr2 zd z1 z2 e4 200 (by omega)]
  ·have h46 : a0 = 45 ∨ a0 = 46 := by omega
   obtain ⟨rfl, rfl, rfl, rfl⟩ := (right_e a0 h46 a1 a2 a3 a4).mp hr
   rw [rEncode_e a0 h46, Encode_e a0 h46 200 (by omega)]
theorem Enc_k (k : Nat) (hk : 200 ≤ k) (a0 a1 a2 a3 a4 : Int) : r02_Encode.f k a0 a1 a2 a3 a4 = inst_Encode.f k a0 a1 a2 a3 a4 := by
 cases h : inst_Encode.f 200 a0 a1 a2 a3 a4 with
 | none =>
  rcases Enc_cases a0 a1 a2 a3 a4 with ⟨_, w, _, h2⟩ | ⟨_, h2⟩
  ·rw [(h2 200 (by omega)).1] at h; cases h
  ·rw [h2 200 (by omega)] at h; cases h
 | some x => rw [at_rounds (inst_Encode.mono _ _ _ _ _) hk h, at_rounds (r02_Encode.mono _ _ _ _ _) hk ((rEncode_eq _ _ _ _ _).trans h)]
theorem rDec_step (w : Nat) (hw : w < 4294967296) (j : Nat) (hj : j < 47) (k : Nat) (hk : 200 ≤ k) :
  r02_Decode.l0 (k + 1) (w : Int) (j : Int) = if hit j w then some (decv j w) else r02_Decode.l0 k (w : Int) ((j + 1 : Nat) : Int) := by
 simp only [r02_Decode.l0]
 rw [if_pos (show (j : Int) < 47 by omega), rTry_eq j w hw k (by omega), obs, wrap_succ j (by omega)]
 simp only
 rw [Enc_k k hk]
 by_cases h45 : j < 45
 ·obtain ⟨a, b, c, d, R⟩ := row_at j h45
  rw [frm_row R h45]
  have hx : decv j w = ((j : Int), (if hRd a = true then ((w / 128 % 32 : Nat) : Int) else 0), (if hR1 a = true then ((w / 32768 % 32 : Nat) : Int) else 0), (if hR2 a = true then ((w / 1048576 % 32 : Nat) : Int) else 0), immv a w, 0) := by
   unfold decv decx
   rw [if_pos h45, R.get]
  by_cases ht : tk j w
  ·rw [if_pos (show hit j w from Or.inl ⟨h45, ht⟩), hx]
   obtain ⟨f1, f2⟩ := forth_row R w hw ht
   have m1 := Nat.mod_lt (w / 128) (show 0 < 32 by decide)
   have m2 := Nat.mod_lt (w / 32768) (show 0 < 32 by decide)
   have m3 := Nat.mod_lt (w / 1048576) (show 0 < 32 by decide)
   have e := Encode_some R h45 (if hRd a = true then w / 128 % 32 else 0) (if hR1 a = true then w / 32768 % 32 else 0) (if hR2 a = true then w / 1048576 % 32 else 0) (immv a w) (if_lt _ _ m1) (if_lt _ _ m2) (if_lt _ _ m3)
    (if_zero _ _) (if_zero _ _) (if_zero _ _) f1 k (by omega)
   rw [f2] at e
   rw [cast_if, cast_if, cast_if, e, obs]
   simp only [reduceIte]
  ·have hn : ¬ hit j w := by
    rintro (⟨_, h⟩ | ⟨h, _⟩ | ⟨h, _⟩)
    ·exact ht h
    ·omega
    ·omega
   rw [if_neg hn]
   rcases Enc_cases (j : Int) (if hRd a = true then ((w / 128 % 32 : Nat) : Int) else 0) (if hR1 a = true then ((w / 32768 % 32 : Nat) : Int) else 0) (if hR2 a = true then ((w / 1048576 % 32 : Nat) : Int) else 0) (immv a w) with ⟨hr, v, hv, h2⟩ | ⟨hr, h2⟩
   ·rw [(h2 k (by omega)).1, obs]
    simp only [reduceIte]
    have hne : ¬ ((v : Int) = (w : Int)) := by
     intro e
     have e' : v = w := Int.ofNat.inj e
     subst e'
     apply ht
     have hd := (h2 k (by omega)).2
     rcases Decode_cases v hw with ⟨i, i1, i2, i3⟩ | ⟨i1, i3⟩ | ⟨i1, i3⟩ | ⟨_, _, _, i3⟩
     ·rw [i3 k (by omega)] at hd
      unfold decx at hd
      have := congrArg Prod.fst (Option.some.inj hd)
      simp only at this
      have : i = j := Int.ofNat.inj this
      subst this
      exact i2
     ·rw [i3 k (by omega)] at hd
      have := congrArg Prod.fst (Option.some.inj hd)
      simp only at this
      omega
     ·rw [i3 k (by omega)] at hd
      have := congrArg Prod.fst (Option.some.inj hd)
      simp only at this
      omega
     ·rw [i3 k (by omega)] at hd
      have := congrArg (fun x => x.2.2.2.2.2) (Option.some.inj hd)
      simp at this
    rw [if_neg hne]
   ·rw [h2 k (by omega), obs]
    simp only
    rw [if_neg (by decide)]
 ·have h46 : j = 45 ∨ j = 46 := by omega
  have hf : frm (j : Int) = 69 := by rcases h46 with rfl | rfl; exact frm_45.1; exact frm_45.2
  have hi : immv 69 w = 0 := rfl
  rw [hf, hi, if_neg (by decide), if_neg (by decide), if_neg (by decide), Encode_e (j : Int) (by omega) k (by omega), obs]
  simp only [reduceIte]
  unfold decv
  rw [if_neg h45]
  rcases h46 with rfl | rfl
  ·by_cases e : w = 115
   ·rw [if_pos (show hit 45 w from Or.inr (Or.inl ⟨rfl, e⟩)), if_pos (by rw [e]; rfl)]
   ·rw [if_neg (show ¬ hit 45 w by rintro (⟨h, _⟩ | ⟨_, h⟩ | ⟨h, _⟩) <;> omega), if_neg (show ¬ ((if ((45 : Nat) : Int) = 45 then (115 : Int) else 1048691) = (w : Int)) by rw [if_pos (show ((45 : Nat) : Int) = 45 from rfl)]; omega)]
  ·by_cases e : w = 1048691
   ·rw [if_pos (show hit 46 w from Or.inr (Or.inr ⟨rfl, e⟩)), if_pos (by rw [e]; rfl)]
   ·rw [if_neg (show ¬ hit 46 w by rintro (⟨h, _⟩ | ⟨h, _⟩ | ⟨_, h⟩) <;> omega), if_neg (show ¬ ((if ((46 : Nat) : Int) = 45 then (115 : Int) else 1048691) = (w : Int)) by rw [if_neg (by decide)]; omega)]
theorem rDec_from (w : Nat) (hw : w < 4294967296) (d : Nat) : ∀ (j k : Nat), j + d = 47 → 201 + d < k →
  r02_Decode.l0 k (w : Int) (j : Int) = match (List.range' j d).find? (fun i => decide (hit i w)) with | some i => some (decv i w) | none => some (0, 0, 0, 0, 0, 20) := by
 induction d with
 | zero =>
  intro j k hj hk
  obtain ⟨k, rfl⟩ : ∃ q, k = q + 1 := ⟨k - 1, by omega⟩
  simp only [r02_Decode.l0]
  rw [if_neg (by omega)]
  rfl
 | succ d ih =>
  intro j k hj hk
  obtain ⟨k, rfl⟩ : ∃ q, k = q + 1 := ⟨k - 1, by omega⟩
  rw [rDec_step w hw j (by omega) k (by omega), List.range'_succ, List.find?_cons]
  by_cases h : hit j w
  ·rw [if_pos h, decide_eq_true h]
  ·rw [if_neg h, decide_eq_false h, ih (j + 1) k (by omega) (by omega)]
theorem rDecode_hit (w : Nat) (hw : w < 4294967296) (j : Nat) (hj : j < 47) (h : hit j w) (k : Nat) (hk : 300 ≤ k) : r02_Decode.f k (w : Int) = some (decv j w) := by
 unfold r02_Decode.f
 have := rDec_from w hw 47 0 k rfl (by omega)
 rw [show ((0 : Nat) : Int) = 0 from rfl] at this
 rw [this]
 cases e : (List.range' 0 47).find? (fun i => decide (hit i w)) with
 | none =>
  have := List.find?_eq_none.mp e j (by simp; omega)
  simp [h] at this
 | some i =>
  have hi := List.find?_some e
  rw [hit_one i j w (of_decide_eq_true hi) h]
theorem rDecode_none (w : Nat) (hw : w < 4294967296) (h : ∀ j, j < 47 → ¬ hit j w) (k : Nat) (hk : 300 ≤ k) : r02_Decode.f k (w : Int) = some (0, 0, 0, 0, 0, 20) := by
 unfold r02_Decode.f
 have := rDec_from w hw 47 0 k rfl (by omega)
 rw [show ((0 : Nat) : Int) = 0 from rfl] at this
 rw [this]
 cases e : (List.range' 0 47).find? (fun i => decide (hit i w)) with
 | none => rfl
 | some i =>
  have hm := List.mem_of_find?_eq_some e
  have hi := List.find?_some e
  exact absurd (of_decide_eq_true hi) (h i (by simp at hm; omega))
theorem rDecode_eq (w : Nat) (hw : w < 4294967296) (k : Nat) (hk : 300 ≤ k) : r02_Decode.f k (w : Int) = inst_Decode.f k (w : Int) := by
 rcases Decode_cases w hw with ⟨j, j1, j2, j3⟩ | ⟨j1, j3⟩ | ⟨j1, j3⟩ | ⟨j0, j1, j2, j3⟩
 ·have h45 := (tk_not j w j1 j2).2
  rw [j3 k (by omega), rDecode_hit w hw j j1 (Or.inl ⟨h45, j2⟩) k hk]
  unfold decv
  rw [if_pos h45]
 ·rw [j3 k (by omega), rDecode_hit w hw 45 (by decide) (Or.inr (Or.inl ⟨rfl, j1⟩)) k hk]
  rfl
 ·rw [j3 k (by omega), rDecode_hit w hw 46 (by decide) (Or.inr (Or.inr ⟨rfl, j1⟩)) k hk]
  rfl
 ·rw [j3 k (by omega), rDecode_none w hw ?_ k hk]
  rintro j hj (⟨h1, h2⟩ | ⟨_, h2⟩ | ⟨_, h2⟩)
  ·exact j2 j hj h2
  ·exact j0 h2
  ·exact j1 h2
end Go.Proofs.Ytekenddkoahjgaa.Q
