/- Layer 2, plain: InstDecodes -/
import Derived.Test.YtegpiempnjbfjaaQx18
import Derived.Test.YtegpiempnjbfjaaQx7
import Derived.Test.YtegpiempnjbfjaaTR
namespace Go.Proofs.Ytegpiempnjbfjaa.Q
open Go.RowKit Go.Proofs.YtegpiempnjbfjaaW.PrintWords Go.Proofs.YtegpiempnjbfjaaW.PrintLast Go.Proofs.YtegpiempnjbfjaaW.PrintMore
set_option linter.unusedVariables false
set_option linter.unusedSimpArgs false
theorem law_InstDecodes : whetstonelaw02_InstDecodes.Pure := by
  intro a0 h
  obtain ⟨w, rfl, hw⟩ := of_u32 h
  refine ⟨300, ?_⟩
  unfold whetstonelaw02_InstDecodes.f
  rw [rDecode_eq w hw 300 (Nat.le_refl _), fixed_300]
  obtain ⟨x, hx, _⟩ := Decode_tot w hw
  rw [at_rounds (inst_Decode.mono _) (show 200 ≤ 300 by decide) hx]
  simp only [obs, reduceIte]
  simp
end Go.Proofs.Ytegpiempnjbfjaa.Q
namespace Go.Proofs.Ytegpiempnjbfjaa.Pure
open Go.RowKit Go.Proofs.Ytegpiempnjbfjaa.Q
theorem InstDecodes : whetstonelaw02_InstDecodes.Pure := law_InstDecodes
end Go.Proofs.Ytegpiempnjbfjaa.Pure
