/- The statement WordDivides over numbers alone, out of what the printed functions come to (no condition). -/
import Derived.Test.YtebgdkhfeegcfaaQx15
import Derived.Test.YtebgdkhfeegcfaaQx5
import Derived.Test.YtebgdkhfeegcfaaTA
namespace Go.Proofs.Ytebgdkhfeegcfaa.Q
open Go.RowKit Go.Proofs.YtebgdkhfeegcfaaW.PrintWords Go.Proofs.YtebgdkhfeegcfaaW.PrintLast Go.Proofs.YtebgdkhfeegcfaaW.PrintMore
set_option linter.unusedVariables false
set_option linter.unusedSimpArgs false
theorem law_WordDivides (hf : whetstonelaw01_fixed.f 200 = some true) : whetstonelaw01_WordDivides.Pure := by
  intro a b h1 h2
  obtain ⟨a, rfl, ha⟩ := of_u32 h1
  obtain ⟨b, rfl, hb⟩ := of_u32 h2
  refine ⟨200, ?_⟩
  unfold whetstonelaw01_WordDivides.f
  by_cases h0 : b = 0
  · subst h0
    rw [does_div 41 a 0 ha hb (by decide) _ (div_zero 41 a (by decide) 5 (by decide)), obs, does_div 43 a 0 ha hb (by decide) _ (div_zero 43 a (by decide) 5 (by decide)), obs, does_div 42 a 0 ha hb (by decide) _ (div_zero 42 a (by decide) 5 (by decide)), obs, does_div 44 a 0 ha hb (by decide) _ (div_zero 44 a (by decide) 5 (by decide)), obs]
    rw [if_pos (by decide), if_neg (show ¬ ((41 : Int) = 43 ∨ (41 : Int) = 44) by decide), if_neg (show ¬ ((42 : Int) = 43 ∨ (42 : Int) = 44) by decide), if_pos (show ((43 : Int) = 43 ∨ (43 : Int) = 44) by decide), if_pos (show ((44 : Int) = 43 ∨ (44 : Int) = 44) by decide), if_pos rfl, if_pos rfl, if_pos rfl, if_pos rfl, hf, obs]
  · rw [does_div 41 a b ha hb (by decide) _ (div_signed a b ha hb h0 5 (by decide)), obs, does_div 43 a b ha hb (by decide) _ (rem_signed a b ha hb h0 5 (by decide)), obs, does_div 42 a b ha hb (by decide) _ (div_unsigned a b h0 5 (by decide)), obs, does_div 44 a b ha hb (by decide) _ (rem_unsigned a b h0 5 (by decide)), obs]
    have hbi : ¬ (b : Int) = 0 := by omega
    rw [if_neg hbi]
    have ws : wrap32 (a : Int) = (a : Int) - (if 2147483648 ≤ a then 4294967296 else 0) := by unfold wrap32; split <;> omega
    have hx : wrap32 (a : Int) % 4294967296 = (a : Int) := by rw [w32_mod]; omega
    obtain ⟨q, hq⟩ := Int.eq_ofNat_of_zero_le (Int.emod_nonneg (Int.tdiv (wrap32 (a : Int)) (wrap32 (b : Int))) (b := 4294967296) (by decide))
    obtain ⟨r, hr⟩ := Int.eq_ofNat_of_zero_le (Int.emod_nonneg (Int.tmod (wrap32 (a : Int)) (wrap32 (b : Int))) (b := 4294967296) (by decide))
    have key := div_key _ _ a b q r hx rfl hq hr
    have hsg : r ≠ 0 → (r : Int) / 2147483648 = (a : Int) / 2147483648 := rem_sign _ _ a r ha ws hr
    have hqlt : (q : Int) < 4294967296 := by rw [← hq]; exact Int.emod_lt_of_pos _ (by decide)
    have hrlt : (r : Int) < 4294967296 := by rw [← hr]; exact Int.emod_lt_of_pos _ (by decide)
    have hun := div_uns a b ha
    have hlt : a % b < b := Nat.mod_lt _ (by omega)
    rw [hq, hr]
    clear hq hr ws hx
    have hqb : ((q * b : Nat) : Int) % 4294967296 = ((q * b % 4294967296 : Nat) : Int) := rfl
    have hqblt : q * b % 4294967296 < 4294967296 := Nat.mod_lt _ (by decide)
    rw [does_eq 37 q b (by omega) hb _ (by decide) _ rfl, obs, hqb, does_eq 27 _ r hqblt (by omega) _ (by decide) _ rfl, obs, if_pos key, hun, if_pos rfl]
    have hlt2 : ((a % b : Nat) : Int) < (b : Int) := by generalize a % b = z at *; omega
    rw [if_pos hlt2, hf, obs]
    by_cases hr0 : (r : Int) = 0
    · rw [if_pos hr0]
    · rw [if_neg hr0, if_pos (hsg (by omega))]
end Go.Proofs.Ytebgdkhfeegcfaa.Q
namespace Go.Proofs.Ytebgdkhfeegcfaa.Pure
open Go.RowKit Go.Proofs.Ytebgdkhfeegcfaa.Q
theorem WordDivides : whetstonelaw01_WordDivides.Pure := law_WordDivides (fixed_ok _ (by decide))
end Go.Proofs.Ytebgdkhfeegcfaa.Pure
