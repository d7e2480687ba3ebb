/- The statement WordOrders over numbers alone, out of what the printed functions come to (no condition). -/
import Derived.Test.YtebgdkhfeegcfaaQx18
import Derived.Test.YtebgdkhfeegcfaaQx5
import Derived.Test.YtebgdkhfeegcfaaTA
namespace Go.Proofs.Ytebgdkhfeegcfaa.Q
open Go.RowKit Go.Proofs.YtebgdkhfeegcfaaW.PrintWords Go.Proofs.YtebgdkhfeegcfaaW.PrintLast Go.Proofs.YtebgdkhfeegcfaaW.PrintMore
set_option linter.unusedVariables false
set_option linter.unusedSimpArgs false
theorem law_WordOrders (hf : whetstonelaw01_fixed.f 200 = some true) : whetstonelaw01_WordOrders.Pure := by
  intro a b h1 h2
  obtain ⟨a, rfl, ha⟩ := of_u32 h1
  obtain ⟨b, rfl, hb⟩ := of_u32 h2
  refine ⟨200, ?_⟩
  unfold whetstonelaw01_WordOrders.f
  have top (x : Nat) (hx : x < 4294967296) : Go.bits .xor .u32 (x : Int) 2147483648 = ((if x < 2147483648 then x + 2147483648 else x - 2147483648 : Nat) : Int) := by
    rw [show (2147483648 : Int) = ((2147483648 : Nat) : Int) from rfl, u32_xor_nat _ _ hx (by omega)]
    obtain ⟨_, e2⟩ := and_add_or 32 x 2147483648 hx (by omega)
    obtain ⟨e1, _⟩ := and_add_or 32 x 2147483648 hx (by omega)
    have e3 : x &&& 2147483648 = x / 2147483648 % 2 * 2147483648 := nat_bit 31 x
    split <;> omega
  have lt (x y : Nat) (hx : x < 4294967296) (hy : y < 4294967296) : whetstonelaw01_does.f 200 31 (x : Int) (y : Int) = some (if x < y then 1 else 0) := does_eq 31 x y hx hy _ (by omega) _ rfl
  have ls (x y : Nat) (hx : x < 4294967296) (hy : y < 4294967296) : whetstonelaw01_does.f 200 30 (x : Int) (y : Int) = some (if wrap32 (x : Int) < wrap32 (y : Int) then 1 else 0) := does_eq 30 x y hx hy _ (by omega) _ rfl
  rw [lt a b ha hb, obs, lt b a hb ha, obs, ls a b ha hb, obs, ls b a hb ha, obs, top a ha, top b hb, lt _ _ (by split <;> omega) (by split <;> omega), hf]
  simp only [obs]
  have hw : (wrap32 (a : Int) < wrap32 (b : Int)) ↔ ((if a < 2147483648 then a + 2147483648 else a - 2147483648) < (if b < 2147483648 then b + 2147483648 else b - 2147483648)) := by
    unfold wrap32; split <;> split <;> omega
  have hw2 : (wrap32 (b : Int) < wrap32 (a : Int)) ↔ ((if b < 2147483648 then b + 2147483648 else b - 2147483648) < (if a < 2147483648 then a + 2147483648 else a - 2147483648)) := by
    unfold wrap32; split <;> split <;> omega
  have hn : (if a < 2147483648 then a + 2147483648 else a - 2147483648) = (if b < 2147483648 then b + 2147483648 else b - 2147483648) ↔ a = b := by
    split <;> split <;> omega
  simp only [hw, hw2]
  generalize (if a < 2147483648 then a + 2147483648 else a - 2147483648) = c at *
  generalize (if b < 2147483648 then b + 2147483648 else b - 2147483648) = d at *
  rcases Nat.lt_trichotomy a b with h | h | h <;> rcases Nat.lt_trichotomy c d with h' | h' | h'
  all_goals first
    | (exfalso; omega)
    | (rw [if_pos h, if_neg (Nat.lt_asymm h), if_pos h', if_neg (Nat.lt_asymm h'), show ((a : Int) == (b : Int)) = false from by rw [beq_eq_false_iff_ne]; omega]; rfl)
    | (rw [if_pos h, if_neg (Nat.lt_asymm h), if_neg (Nat.lt_asymm h'), if_pos h', show ((a : Int) == (b : Int)) = false from by rw [beq_eq_false_iff_ne]; omega]; rfl)
    | (rw [if_neg (Nat.lt_asymm h), if_pos h, if_pos h', if_neg (Nat.lt_asymm h'), show ((a : Int) == (b : Int)) = false from by rw [beq_eq_false_iff_ne]; omega]; rfl)
    | (rw [if_neg (Nat.lt_asymm h), if_pos h, if_neg (Nat.lt_asymm h'), if_pos h', show ((a : Int) == (b : Int)) = false from by rw [beq_eq_false_iff_ne]; omega]; rfl)
    | (subst h; subst h'; simp; done)
end Go.Proofs.Ytebgdkhfeegcfaa.Q
namespace Go.Proofs.Ytebgdkhfeegcfaa.Pure
open Go.RowKit Go.Proofs.Ytebgdkhfeegcfaa.Q
theorem WordOrders : whetstonelaw01_WordOrders.Pure := law_WordOrders (fixed_ok _ (by decide))
end Go.Proofs.Ytebgdkhfeegcfaa.Pure
