/- The statement WordFields over numbers alone, out of what the printed functions come to (no condition). -/
import Derived.Test.YtebgdkhfeegcfaaQx5
import Derived.Test.YtebgdkhfeegcfaaQx8
import Derived.Test.YtebgdkhfeegcfaaTA
namespace Go.Proofs.Ytebgdkhfeegcfaa.Q
open Go.RowKit Go.Proofs.YtebgdkhfeegcfaaW.PrintWords Go.Proofs.YtebgdkhfeegcfaaW.PrintLast Go.Proofs.YtebgdkhfeegcfaaW.PrintMore
set_option linter.unusedVariables false
set_option linter.unusedSimpArgs false
theorem law_WordFields (hf : whetstonelaw01_fixed.f 200 = some true) (w p n v : Int) (h1 : (Lit.int .u32 w).wf = true) (h2 : (Lit.int .u32 v).wf = true) : whetstonelaw01_WordFields.f 200 w p n v = some true := by
  obtain ⟨w, rfl, hw⟩ := of_u32 h1
  obtain ⟨v, rfl, hv⟩ := of_u32 h2
  unfold whetstonelaw01_WordFields.f
  rw [hf, obs, if_pos rfl, Field_eq w hw p n _ (by omega), obs, rField_all w hw p n _ (by omega), obs, if_pos rfl, Sign_eq w hw n _ (by omega), obs, rSign_eq w hw n _ (by omega), obs, if_pos rfl,
    Put_eq w v hw hv p n _ (by omega), obs, rPut_eq w v hw hv p n _ (by omega), obs]
  simp
theorem walk_WordFields (a0 p n v : Int) (w : World) (w0 : (Lit.int .u32 a0).wf = true) (_w1 : (Lit.int .i64 p).wf = true) (_w2 : (Lit.int .i64 n).wf = true) (w3 : (Lit.int .u32 v).wf = true) :
    Calls Try.prog 3 #[.int .u32 a0, .agg #[.int .i64 p, .int .i64 n, .int .u32 v]] w fun e w' => e = .returned (.bool true) ∧ Below w.heap.size w w' :=
  whetstonelaw01_WordFields.calls 200 a0 p n v true w (law_WordFields (fixed_ok _ (by decide)) a0 p n v w0 w3)
end Go.Proofs.Ytebgdkhfeegcfaa.Q
