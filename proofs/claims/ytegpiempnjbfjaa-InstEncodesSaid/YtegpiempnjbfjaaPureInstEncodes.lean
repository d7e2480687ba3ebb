/- Layer 2, plain: InstEncodes -/
import Derived.Test.YtegpiempnjbfjaaQx19
import Derived.Test.YtegpiempnjbfjaaTR
namespace Go.Proofs.Ytegpiempnjbfjaa.Q
open Go.RowKit Go.Proofs.YtegpiempnjbfjaaW.PrintWords Go.Proofs.YtegpiempnjbfjaaW.PrintLast Go.Proofs.YtegpiempnjbfjaaW.PrintMore
set_option linter.unusedVariables false
set_option linter.unusedSimpArgs false
theorem law_InstEncodes (a0 a1 a2 a3 a4 : Int) : whetstonelaw02_InstEncodes.f 200 a0 a1 a2 a3 a4 = some true := by
  unfold whetstonelaw02_InstEncodes.f
  rw [rEncode_eq, fixed_200, rRight_eq, Right_eq _ _ _ _ _ 200 (by decide)]
  rcases Enc_cases a0 a1 a2 a3 a4 with ⟨_, w, _, h2⟩ | ⟨_, h2⟩
  · rw [(h2 200 (by decide)).1]
    simp only [obs, reduceIte]
    simp
  · rw [h2 200 (by decide)]
    simp only [obs, reduceIte]
    simp
theorem walk_InstEncodes (a0_0 a0_1 a0_2 a0_3 a0_4 : Int) (W : World) (w0 : (Lit.int .i64 a0_0).wf = true) (w1 : (Lit.int .i64 a0_1).wf = true) (w2 : (Lit.int .i64 a0_2).wf = true) (w3 : (Lit.int .i64 a0_3).wf = true) (w4 : (Lit.int .i64 a0_4).wf = true) :
    Calls Try.prog 4 #[.agg #[.int .i64 a0_0, .int .i64 a0_1, .int .i64 a0_2, .int .i64 a0_3, .int .i64 a0_4]] W fun e w' => e = .returned (.bool true) ∧ Below W.heap.size W w' :=
  whetstonelaw02_InstEncodes.calls 200 a0_0 a0_1 a0_2 a0_3 a0_4 true W (law_InstEncodes a0_0 a0_1 a0_2 a0_3 a0_4)
end Go.Proofs.Ytegpiempnjbfjaa.Q
