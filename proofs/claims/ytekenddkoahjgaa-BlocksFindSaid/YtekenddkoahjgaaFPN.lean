import Derived.Test.YtekenddkoahjgaaFQx6
import Derived.Test.YtekenddkoahjgaaFQx29
import Derived.Test.YtekenddkoahjgaaFQx11
import Derived.Test.YtekenddkoahjgaaFQx32
import Derived.Test.YtekenddkoahjgaaFQx33
import Derived.Test.YtekenddkoahjgaaFQx37
import Derived.Test.YtekenddkoahjgaaFQx43
import Derived.Test.YtekenddkoahjgaaFQx45
import Derived.Test.YtekenddkoahjgaaFPG
import Derived.Test.YtekenddkoahjgaaFLB
import Derived.WalkKit
import Derived.Outline
/- Layer 8: what the law PN answers. -/
namespace Go.Proofs.Ytekenddkoahjgaa.Q
open Go.RowKit Go.Proofs.YtekenddkoahjgaaW.PrintWords Go.Proofs.YtekenddkoahjgaaW.PrintLast Go.Proofs.YtekenddkoahjgaaW.PrintMore
set_option linter.unusedVariables false
set_option linter.unusedSimpArgs false
theorem text_of (b0 e0 : Int) (l : List Int) (s : Int) (l1 : List Int) (hb0 : 0 ≤ b0 ∧ b0 < 4294967296) (he0 : 0 ≤ e0 ∧ e0 < 4294967296) (hl : ∀ x ∈ l, 0 ≤ x ∧ x < 4294967296) (hl1 : ∀ x ∈ l1, 0 ≤ x ∧ x < 4294967296) :
  ∃ (B : Int) (lt es : List Int), whetstonelaw08_Text.f b0 e0 l s = some (B, e0, lt, 0) ∧ (0 ≤ mn (l1.length : Int) 8 ∧ mn (l1.length : Int) 8 ≤ (l1.length : Int) ∧ mn (l1.length : Int) 8 ≤ 8) ∧ l1.take (mn (l1.length : Int) 8).toNat = es ∧ ImOk B e0 lt ∧ EsOk es := by
 obtain ⟨n, rfl⟩ := Int.eq_ofNat_of_zero_le hb0.1
 have hmn : 0 ≤ mn (l1.length : Int) 8 ∧ mn (l1.length : Int) 8 ≤ (l1.length : Int) ∧ mn (l1.length : Int) 8 ≤ 8 := by
  unfold mn
  split <;> omega
 refine ⟨((n / 4096 * 4096 : Nat) : Int), l.take 40, _, ?_, hmn, rfl, ⟨by omega, by omega, he0, by rw [List.length_take]; omega, fun x hx => hl x (List.mem_of_mem_take hx)⟩, ⟨?_, fun x hx => hl1 x (List.mem_of_mem_take hx)⟩⟩
 ·unfold whetstonelaw08_Text.f
  rw [if_pos (fun x hx => (hl x hx).1), and_u32 n (by omega)]
 ·rw [List.length_take]
  omega
theorem ImOk.rfind {b e : Int} {l es : List Int} (h : ImOk b e l) (he : EsOk es) (s : Int) : whetstoneref08_Find.f b e l s es = some ((findq b e l es).1.map toB, (findq b e l es).2) := by
 unfold whetstoneref08_Find.f
 rw [if_pos]
 have h1 := h.b1
 have h2 := h.l1
 have h3 := he.l1
 exact ⟨⟨by omega, h.e1, by omega, by omega, fun x hx => ⟨(h.l2 x hx).1, decode_all x (h.l2 x hx)⟩, he.l2, (h.fin he).fin⟩, by omega, fun x hx => (h.l2 x hx).2⟩
end Go.Proofs.Ytekenddkoahjgaa.Q
