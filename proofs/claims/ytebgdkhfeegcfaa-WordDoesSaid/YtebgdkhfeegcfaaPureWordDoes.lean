/- The statement WordDoes over numbers alone, out of what the printed functions come to (no condition). -/
import Derived.Test.YtebgdkhfeegcfaaQx13
import Derived.Test.YtebgdkhfeegcfaaQx5
import Derived.Test.YtebgdkhfeegcfaaTA
namespace Go.Proofs.Ytebgdkhfeegcfaa.Q
open Go.RowKit Go.Proofs.YtebgdkhfeegcfaaW.PrintWords Go.Proofs.YtebgdkhfeegcfaaW.PrintLast Go.Proofs.YtebgdkhfeegcfaaW.PrintMore
set_option linter.unusedVariables false
set_option linter.unusedSimpArgs false
theorem law_WordDoes (hf : whetstonelaw01_fixed.f 200 = some true) : whetstonelaw01_WordDoes.Pure := by
  intro op a b h0 h1 h2
  obtain ⟨a, rfl, ha⟩ := of_u32 h1
  obtain ⟨b, rfl, hb⟩ := of_u32 h2
  refine ⟨200, ?_⟩
  unfold whetstonelaw01_WordDoes.f
  rw [Do_eq op a b ha hb _ (by omega), obs, rDo_eq op a b ha hb _ (by omega), obs, hf, obs, if_pos rfl, if_pos rfl]
  simp
end Go.Proofs.Ytebgdkhfeegcfaa.Q
namespace Go.Proofs.Ytebgdkhfeegcfaa.Pure
open Go.RowKit Go.Proofs.Ytebgdkhfeegcfaa.Q
theorem WordDoes : whetstonelaw01_WordDoes.Pure := law_WordDoes (fixed_ok _ (by decide))
end Go.Proofs.Ytebgdkhfeegcfaa.Pure
