/- The statement WordProducts over numbers alone, out of what the printed functions come to (no condition). -/
import Derived.Test.YtebgdkhfeegcfaaQx16
import Derived.Test.YtebgdkhfeegcfaaQx5
import Derived.Test.YtebgdkhfeegcfaaTA
namespace Go.Proofs.Ytebgdkhfeegcfaa.Q
open Go.RowKit Go.Proofs.YtebgdkhfeegcfaaW.PrintWords Go.Proofs.YtebgdkhfeegcfaaW.PrintLast Go.Proofs.YtebgdkhfeegcfaaW.PrintMore
set_option linter.unusedVariables false
set_option linter.unusedSimpArgs false
theorem law_WordProducts (hf : whetstonelaw01_fixed.f 199 = some true) : whetstonelaw01_WordProducts.Pure := by
  intro a b h1 h2
  obtain ⟨a, rfl, ha⟩ := of_u32 h1
  obtain ⟨b, rfl, hb⟩ := of_u32 h2
  refine ⟨200, ?_⟩
  have q := mul_bound a b _ _ ha hb
  have ht : a * b < 18446744073709551616 := by omega
  have wh := whole (a * b) ht
  have w1 : IntKind.u64.wrap (IntKind.u64.wrap (a : Int) * IntKind.u64.wrap (b : Int)) = ((a * b : Nat) : Int) := by
    rw [u64_id (a : Int) (by omega) (by omega), u64_id (b : Int) (by omega) (by omega), ← Int.natCast_mul, u64_id _ (by omega) (by omega)]
  have dm : whetstonelaw01_does.f 200 37 (a : Int) (b : Int) = some ((a * b % 4294967296 : Nat) : Int) := does_eq 37 a b ha hb _ (by decide) _ rfl
  have hu := does_high 40 a b ha hb (by decide) 200 (by decide) _ (high_u a b ha hb)
  have hs := does_high 38 a b ha hb (by decide) 199 (by decide) _ (high_s a b ha hb)
  have hsu := does_high 39 a b ha hb (by decide) 199 (by decide) _ (high_su a b ha hb)
  have hub : a * b / 4294967296 < 4294967296 := by omega
  unfold whetstonelaw01_WordProducts.f
  rw [hu, obs, dm, obs, w1]
  simp only [whetstonelaw01_WordProducts.j0]
  rw [wh, hsu, hs, hf]
  clear wh w1 dm hu hs hsu q ht
  generalize a * b / 4294967296 = h at *
  simp only [obs]
  by_cases g1 : 2147483648 ≤ a <;> by_cases g2 : 2147483648 ≤ b
  · rw [if_pos (show (a : Int) / 2147483648 = 1 by omega), if_pos (show (b : Int) / 2147483648 = 1 by omega), if_true, if_pos g1, if_pos g2, if_pos rfl, if_pos (by omega)]
  · rw [if_pos (show (a : Int) / 2147483648 = 1 by omega), if_neg (show ¬ (b : Int) / 2147483648 = 1 by omega), if_true, if_pos g1, if_neg g2, if_pos rfl, if_pos (by omega)]
  · rw [if_neg (show ¬ (a : Int) / 2147483648 = 1 by omega), if_pos (show (b : Int) / 2147483648 = 1 by omega), if_true, if_neg g1, if_pos g2, if_pos (by omega), if_pos (by omega)]
  · rw [if_neg (show ¬ (a : Int) / 2147483648 = 1 by omega), if_neg (show ¬ (b : Int) / 2147483648 = 1 by omega), if_true, if_neg g1, if_neg g2, if_pos (by omega), if_pos (by omega)]
end Go.Proofs.Ytebgdkhfeegcfaa.Q
namespace Go.Proofs.Ytebgdkhfeegcfaa.Pure
open Go.RowKit Go.Proofs.Ytebgdkhfeegcfaa.Q
theorem WordProducts : whetstonelaw01_WordProducts.Pure := law_WordProducts (fixed_ok _ (by decide))
end Go.Proofs.Ytebgdkhfeegcfaa.Pure
