import Derived.Test.YtekenddkoahjgaaTQx18
import Derived.Test.YtekenddkoahjgaaTQx28
import Derived.Test.YtekenddkoahjgaaTQx30
import Derived.Test.YtekenddkoahjgaaTQx38
import Derived.WalkKit
import Derived.Outline
/- Layer 8: what the law PWBlocksGo answers. -/
namespace Go.Proofs.Ytekenddkoahjgaa.Q
open Go.RowKit Go.Proofs.YtekenddkoahjgaaW.PrintWords Go.Proofs.YtekenddkoahjgaaW.PrintLast Go.Proofs.YtekenddkoahjgaaW.PrintMore
set_option linter.unusedVariables false
set_option linter.unusedSimpArgs false
theorem of_u32w {a : Int} (h : (Lit.int .u32 a).wf = true) : 0 ≤ a ∧ a < 4294967296 := by
 simp [Lit.wf, IntKind.min, IntKind.max, IntKind.signed, IntKind.bits] at h
 omega
theorem aftq_plain (x : Bl.Ins) (a : Nat) (h : endq x = false) : aftq x a = [Bl.nextv a] := by
 unfold endq Bl.endv at h
 simp only [Bool.or_eq_false_iff, Bool.not_eq_false', decide_eq_false_iff_not] at h
 obtain ⟨⟨⟨⟨h1, h2⟩, h3⟩, h4⟩, h5⟩ := h
 unfold aftq Bl.aftv
 rw [if_neg (fun h => h.elim (fun h => by rw [h1] at h; cases h) h5), if_neg (fun h => h3 h.1), if_neg (fun h => h.elim h3 h2), if_neg (fun h => h4 h.1)]
end Go.Proofs.Ytekenddkoahjgaa.Q
