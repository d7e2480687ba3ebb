/- The statement WordTwos over numbers alone, out of what the printed functions come to (no condition). -/
import Derived.Test.YtebgdkhfeegcfaaQx18
import Derived.Test.YtebgdkhfeegcfaaQx5
import Derived.Test.YtebgdkhfeegcfaaTA
namespace Go.Proofs.Ytebgdkhfeegcfaa.Q
open Go.RowKit Go.Proofs.YtebgdkhfeegcfaaW.PrintWords Go.Proofs.YtebgdkhfeegcfaaW.PrintLast Go.Proofs.YtebgdkhfeegcfaaW.PrintMore
set_option linter.unusedVariables false
set_option linter.unusedSimpArgs false
theorem law_WordTwos (hf : whetstonelaw01_fixed.f 200 = some true) : whetstonelaw01_WordTwos.Pure := by
  intro a b h1 h2
  obtain ⟨a, rfl, ha⟩ := of_u32 h1
  obtain ⟨b, rfl, hb⟩ := of_u32 h2
  refine ⟨200, ?_⟩
  unfold whetstonelaw01_WordTwos.f
  have e1 : whetstonelaw01_does.f 200 28 0 (b : Int) = some (((if b = 0 then 0 else 4294967296 - b : Nat)) : Int) := by
    refine does_eq 28 0 b (by omega) hb _ (by omega) _ ?_
    show ((((0 : Nat) : Int) - (b : Int)) % 4294967296, (0 : Int)) = _
    refine congrArg (·, (0 : Int)) ?_
    split <;> omega
  have hn : (if b = 0 then 0 else 4294967296 - b) < 4294967296 := by split <;> omega
  have e2 : b ^^^ 4294967295 = 4294967295 - b := by
    have := not_nat b hb
    rw [show (4294967295 : Int) = ((4294967295 : Nat) : Int) from rfl, u32_xor_nat _ _ (by omega) hb, Nat.xor_comm] at this
    omega
  have a1 (x y : Nat) (hx : x < 4294967296) (hy : y < 4294967296) : whetstonelaw01_does.f 200 27 (x : Int) (y : Int) = some (((x + y : Nat) : Int) % 4294967296) := does_eq 27 x y hx hy _ (by omega) _ rfl
  rw [e1, obs, a1 b _ hb hn, obs, if_pos (by split <;> omega), a1 a _ ha hn, obs, does_eq 28 a b ha hb _ (by omega) _ rfl, obs, if_pos (by split <;> omega)]
  rw [show (4294967295 : Int) = ((4294967295 : Nat) : Int) from rfl, does_eq 32 b 4294967295 hb (by omega) _ (by omega) _ rfl, obs, e2, show (1 : Int) = ((1 : Nat) : Int) from rfl, a1 _ 1 (by omega) (by omega), obs, if_pos (by split <;> omega), hf, obs]
end Go.Proofs.Ytebgdkhfeegcfaa.Q
namespace Go.Proofs.Ytebgdkhfeegcfaa.Pure
open Go.RowKit Go.Proofs.Ytebgdkhfeegcfaa.Q
theorem WordTwos : whetstonelaw01_WordTwos.Pure := law_WordTwos (fixed_ok _ (by decide))
end Go.Proofs.Ytebgdkhfeegcfaa.Pure
