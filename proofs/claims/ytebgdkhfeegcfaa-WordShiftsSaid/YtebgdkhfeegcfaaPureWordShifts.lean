/- The statement WordShifts over numbers alone, out of what the printed functions come to (no condition). -/
import Derived.Test.YtebgdkhfeegcfaaQx17
import Derived.Test.YtebgdkhfeegcfaaQx5
import Derived.Test.YtebgdkhfeegcfaaTA
namespace Go.Proofs.Ytebgdkhfeegcfaa.Q
open Go.RowKit Go.Proofs.YtebgdkhfeegcfaaW.PrintWords Go.Proofs.YtebgdkhfeegcfaaW.PrintLast Go.Proofs.YtebgdkhfeegcfaaW.PrintMore
set_option linter.unusedVariables false
set_option linter.unusedSimpArgs false
theorem shifts_j0 (a b : Nat) (ha : a < 4294967296) (hb : b < 4294967296) (hf : whetstonelaw01_fixed.f 199 = some true) : whetstonelaw01_WordShifts.j0 200 (a : Int) (b : Int) ((a / 2 ^ (b % 32) : Nat) : Int) false = some true := by
  have hs : b % 32 < 32 := Nat.mod_lt _ (by decide)
  have l1 := sra_lt a (b % 32) ha hs
  have l2 := sra_lt (4294967295 - a) (b % 32) (by omega) hs
  have d1 : whetstonelaw01_does.f 199 34 (a : Int) (b : Int) = some ((sra a (b % 32) : Nat) : Int) := does_eq 34 a b ha hb _ (by decide) _ rfl
  have d2 : whetstonelaw01_does.f 199 34 ((4294967295 - a : Nat) : Int) (b : Int) = some ((sra (4294967295 - a) (b % 32) : Nat) : Int) := does_eq 34 _ b (by omega) hb _ (by decide) _ rfl
  simp only [whetstonelaw01_WordShifts.j0]
  rw [if_neg (by decide), not_nat a ha]
  by_cases h : (a : Int) / 2147483648 = 1
  · rw [if_pos h, d1, obs, d2, obs, not_nat _ l2, if_pos (by rw [sra_not a _ ha hs]), hf, obs]
  · have e : sra a (b % 32) = a / 2 ^ (b % 32) := by unfold sra; rw [if_pos (by omega)]
    rw [if_neg h, d1, obs, if_pos (by rw [e]), d2, obs, not_nat _ l2, if_pos (by rw [sra_not a _ ha hs]), hf, obs]
theorem law_WordShifts (hf : whetstonelaw01_fixed.f 199 = some true) : whetstonelaw01_WordShifts.Pure := by
  intro a b h1 h2
  obtain ⟨a, rfl, ha⟩ := of_u32 h1
  obtain ⟨b, rfl, hb⟩ := of_u32 h2
  refine ⟨200, ?_⟩
  have hs : b % 32 < 32 := Nat.mod_lt _ (by decide)
  have hj := shifts_j0 a b ha hb hf
  have hl : a / 2 ^ (b % 32) ≤ a := Nat.div_le_self _ _
  have hm : a * 2 ^ (b % 32) % 4294967296 < 4294967296 := Nat.mod_lt _ (by decide)
  have d (op : Int) (x y : Nat) (hx : x < 4294967296) (hy : y < 4294967296) (v : Int) (h : doW op x y = (v, 0)) : whetstonelaw01_does.f 200 op (x : Int) (y : Int) = some v := does_eq op x y hx hy _ (by decide) _ h
  unfold whetstonelaw01_WordShifts.f
  have w1 : (32 - ((b % 32 : Nat) : Int)) % 4294967296 = ((32 - b % 32 : Nat) : Int) := by generalize b % 32 = k at *; omega
  have w2 : wrap64 (((b % 32 : Nat) : Int)) = ((b % 32 : Nat) : Int) := by generalize b % 32 = k at *; unfold wrap64; omega
  rw [and31 b hb, w1, w2]
  clear w1 w2
  have m2 : b % 32 % 32 = b % 32 := Nat.mod_mod _ _
  rw [d 29 a b ha hb _ rfl, obs, d 33 a b ha hb _ rfl, obs, d 29 a (b % 32) ha (by omega) _ rfl, obs, m2, if_pos rfl, d 33 a (b % 32) ha (by omega) _ rfl, obs, m2, if_pos rfl, d 33 _ b hm hb _ rfl, obs,
    shl_shr a _ hs, fld0 a (32 - b % 32) ha (by omega) (by omega) _ (by decide), obs, if_pos rfl, d 29 _ b (by omega) hb _ rfl, obs]
  have pq := Put_eq a 0 ha (by decide) 0 ((b % 32 : Nat) : Int) 200 (by decide)
  rw [show ((0 : Nat) : Int) = 0 from rfl] at pq
  rw [pq, obs]
  have e : a / 2 ^ (b % 32) * 2 ^ (b % 32) % 4294967296 = put a 0 ((b % 32 : Nat) : Int) 0 := by
    by_cases h0 : 1 ≤ b % 32
    · exact shr_shl a _ ha hs h0
    · have h0 : b % 32 = 0 := by omega
      rw [h0]
      unfold put
      rw [if_neg (by unfold May; decide), Nat.pow_zero, Nat.div_one, Nat.mul_one, Nat.mod_eq_of_lt ha]
  rw [e, show (((put a 0 ((b % 32 : Nat) : Int) 0 : Nat) : Int) != ((put a 0 ((b % 32 : Nat) : Int) 0 : Nat) : Int)) = false from by simp]
  exact hj
end Go.Proofs.Ytebgdkhfeegcfaa.Q
namespace Go.Proofs.Ytebgdkhfeegcfaa.Pure
open Go.RowKit Go.Proofs.Ytebgdkhfeegcfaa.Q
theorem WordShifts : whetstonelaw01_WordShifts.Pure := law_WordShifts (fixed_ok _ (by decide))
end Go.Proofs.Ytebgdkhfeegcfaa.Pure
