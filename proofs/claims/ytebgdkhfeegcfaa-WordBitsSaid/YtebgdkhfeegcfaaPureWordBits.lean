/- The statement WordBits over numbers alone, out of what the printed functions come to (no condition). -/
import Derived.Test.YtebgdkhfeegcfaaQx18
import Derived.Test.YtebgdkhfeegcfaaQx5
import Derived.Test.YtebgdkhfeegcfaaTA
namespace Go.Proofs.Ytebgdkhfeegcfaa.Q
open Go.RowKit Go.Proofs.YtebgdkhfeegcfaaW.PrintWords Go.Proofs.YtebgdkhfeegcfaaW.PrintLast Go.Proofs.YtebgdkhfeegcfaaW.PrintMore
set_option linter.unusedVariables false
set_option linter.unusedSimpArgs false
theorem law_WordBits (hf : whetstonelaw01_fixed.f 200 = some true) : whetstonelaw01_WordBits.Pure := by
  intro a b h1 h2
  obtain ⟨a, rfl, ha⟩ := of_u32 h1
  obtain ⟨b, rfl, hb⟩ := of_u32 h2
  refine ⟨200, ?_⟩
  unfold whetstonelaw01_WordBits.f
  obtain ⟨s1, s2⟩ := and_add_or 32 a b ha hb
  have l1 : a &&& b < 4294967296 := Nat.lt_of_le_of_lt Nat.and_le_left ha
  have l2 : a ||| b < 4294967296 := Nat.or_lt_two_pow (n := 32) ha hb
  have l3 : a ^^^ b < 4294967296 := Nat.xor_lt_two_pow (n := 32) ha hb
  have x1 : (a ^^^ b) ^^^ b = a := by rw [Nat.xor_assoc, Nat.xor_self, Nat.xor_zero]
  have x2 : (a &&& b) &&& (a ^^^ b) = 0 := by
    apply nat_of_bits
    intro i
    rw [bit_and, bit_and, bit_xor]
    have h01 : a / 2 ^ i % 2 = 0 ∨ a / 2 ^ i % 2 = 1 := by have := bit_lt a i; omega
    have h02 : b / 2 ^ i % 2 = 0 ∨ b / 2 ^ i % 2 = 1 := by have := bit_lt b i; omega
    rcases h01 with h | h <;> rcases h02 with h' | h' <;> rw [h, h'] <;> simp
  rw [does_eq 36 a b ha hb _ (by omega) _ rfl, obs, does_eq 35 a b ha hb _ (by omega) _ rfl, obs, does_eq 32 a b ha hb _ (by omega) _ rfl, obs,
    does_eq 27 _ _ l1 l2 _ (by omega) _ rfl, obs, does_eq 27 a b ha hb _ (by omega) _ rfl, obs, if_pos (by rw [s1]), does_eq 28 _ _ l2 l1 _ (by omega) _ rfl, obs]
  rw [if_pos (by omega), does_eq 32 _ b l3 hb _ (by omega) _ rfl, obs, x1, if_pos rfl, does_eq 36 _ _ l1 l3 _ (by omega) _ rfl, obs, x2, if_pos (by decide), hf, obs]
end Go.Proofs.Ytebgdkhfeegcfaa.Q
namespace Go.Proofs.Ytebgdkhfeegcfaa.Pure
open Go.RowKit Go.Proofs.Ytebgdkhfeegcfaa.Q
theorem WordBits : whetstonelaw01_WordBits.Pure := law_WordBits (fixed_ok _ (by decide))
end Go.Proofs.Ytebgdkhfeegcfaa.Pure
