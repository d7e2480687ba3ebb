/- The statement WordHalves over numbers alone, out of what the printed functions come to (no condition). -/
import Derived.Test.YtebgdkhfeegcfaaQx1
import Derived.Test.YtebgdkhfeegcfaaQx19
import Derived.Test.YtebgdkhfeegcfaaQx2
import Derived.Test.YtebgdkhfeegcfaaQx5
import Derived.Test.YtebgdkhfeegcfaaTA
namespace Go.Proofs.Ytebgdkhfeegcfaa.Q
open Go.RowKit Go.Proofs.YtebgdkhfeegcfaaW.PrintWords Go.Proofs.YtebgdkhfeegcfaaW.PrintLast Go.Proofs.YtebgdkhfeegcfaaW.PrintMore
set_option linter.unusedVariables false
set_option linter.unusedSimpArgs false
theorem law_WordHalves_n (w v n : Nat) (hw : w < 4294967296) (hv : v < 4294967296) (h1 : 1 ≤ n) (h2 : n ≤ 31) (hf : whetstonelaw01_fixed.f 200 = some true) (F : Option Bool)
    (hF : F = (word_Field.f 200 (w : Int) 0 (n : Int)).bind fun t264 => ((word_Field.f 200 (w : Int) (n : Int) ((32 - n : Nat) : Int)).bind fun t265 => ((word_Put.f 200 (v : Int) 0 (n : Int) t264).bind fun t266 => ((word_Put.f 200 t266 (n : Int) ((32 - n : Nat) : Int) t265).bind fun t267 => (if t267 = (w : Int) then (if 0 ≤ (n : Int) then (if (Go.bits .or .u32 (shl .u32 t265 (n : Int)) t264) = (w : Int) then (if t264 < (shl .u32 1 (n : Int)) then ((whetstonelaw01_fixed.f 200).bind fun t268 => (some t268)) else (some false)) else (some false)) else (none)) else (some false)))))) : F = some true := by
  have l1 : w % 2 ^ n < 4294967296 := mod_lt32 _ _ (by omega)
  have l2 : w / 2 ^ n % 2 ^ (32 - n) < 4294967296 := mod_lt32 _ _ (by omega)
  have l3 := put_lt v (w % 2 ^ n) hv 0 (n : Int)
  have hp := two_pow_le n 31 h2
  have hp0 : 0 < 2 ^ n := Nat.pow_pos (by decide)
  have e0 : 2 ^ n * 2 ^ (32 - n) = 4294967296 := by rw [← Nat.pow_add, show n + (32 - n) = 32 by omega]
  have e1 : w / 2 ^ n < 2 ^ (32 - n) := Nat.div_lt_of_lt_mul (by rw [e0]; exact hw)
  have e2 : w / 2 ^ n % 2 ^ (32 - n) = w / 2 ^ n := Nat.mod_eq_of_lt e1
  have e3 : w / 2 ^ n * 2 ^ n ≤ w := Nat.div_mul_le_self _ _
  have e4 : w / 2 ^ n * 2 ^ n + w % 2 ^ n = w := Nat.div_add_mod' w (2 ^ n)
  have hc := halves_core w v n hw hv h1 h2
  rw [e2] at hc l2
  have pq := Put_eq v (w % 2 ^ n) hv l1 0 (n : Int) 200 (by decide)
  rw [hF, fld0 w n hw h1 (by omega) _ (by decide), obs, Field_may w n (32 - n) hw (by omega) (by omega) (by omega) _ (by decide), obs, e2, pq, obs, Put_eq _ _ l3 l2 _ _ _ (by decide), obs, hc, if_pos rfl, if_pos (by omega)]
  have e6 : w / 2 ^ n * 2 ^ n < 4294967296 := Nat.lt_of_le_of_lt e3 hw
  have e7 : 2 ^ n < 4294967296 := by omega
  rw [shl_nat _ n (by omega), Nat.mod_eq_of_lt e6, u32_or_nat _ _ e6 l1, nat_join n _ _ (Nat.mul_mod_left _ _) (Nat.mod_lt _ hp0), e4, if_pos rfl, show (1 : Int) = ((1 : Nat) : Int) from rfl, shl_nat 1 n (by omega), Nat.one_mul, Nat.mod_eq_of_lt e7]
  have e5 : w % 2 ^ n < 2 ^ n := Nat.mod_lt _ hp0
  rw [if_pos (by generalize w % 2 ^ n = x at *; omega), hf, obs]
theorem law_WordHalves (hf : whetstonelaw01_fixed.f 200 = some true) : whetstonelaw01_WordHalves.Pure := by
  intro w v cut h1 h2 h3
  obtain ⟨w, rfl, hw⟩ := of_u32 h1
  obtain ⟨v, rfl, hv⟩ := of_u32 h2
  obtain ⟨c, hc, _⟩ := i64_nat cut h3 16 (by decide)
  have hc : Go.bits .and .i64 cut 65535 = (c : Int) := hc
  refine ⟨200, ?_⟩
  have hlt : c % 31 < 31 := Nat.mod_lt _ (by decide)
  have w1 : wrap64 (1 + Int.tmod (c : Int) 31) = ((1 + c % 31 : Nat) : Int) := by
    rw [show (31 : Int) = ((31 : Nat) : Int) from rfl, tmod_nat]; generalize c % 31 = x at *; unfold wrap64; omega
  have w2 : wrap64 (32 - ((1 + c % 31 : Nat) : Int)) = ((32 - (1 + c % 31) : Nat) : Int) := by generalize c % 31 = x at *; unfold wrap64; omega
  unfold whetstonelaw01_WordHalves.f
  rw [hc, w1, w2]
  clear hc w1 w2
  exact law_WordHalves_n w v (1 + c % 31) hw hv (by omega) (by omega) hf _ rfl
end Go.Proofs.Ytebgdkhfeegcfaa.Q
namespace Go.Proofs.Ytebgdkhfeegcfaa.Pure
open Go.RowKit Go.Proofs.Ytebgdkhfeegcfaa.Q
theorem WordHalves : whetstonelaw01_WordHalves.Pure := law_WordHalves (fixed_ok _ (by decide))
end Go.Proofs.Ytebgdkhfeegcfaa.Pure
