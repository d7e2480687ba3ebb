import Derived.Test.YtekenddkoahjgaaUQx28
import Derived.Test.YtekenddkoahjgaaUQx30
import Derived.Test.YtekenddkoahjgaaUQx35
import Derived.Test.YtekenddkoahjgaaUQx36
import Derived.Test.YtekenddkoahjgaaUQx37
import Derived.Test.YtekenddkoahjgaaUPWBlocksGo
import Derived.Test.YtekenddkoahjgaaULA
import Derived.WalkKit
import Derived.Outline
/- Layer 8: what the law PWBlocksAfter answers. -/
namespace Go.Proofs.Ytekenddkoahjgaa.Q
open Go.RowKit Go.Proofs.YtekenddkoahjgaaW.PrintWords Go.Proofs.YtekenddkoahjgaaW.PrintLast Go.Proofs.YtekenddkoahjgaaW.PrintMore
set_option linter.unusedVariables false
set_option linter.unusedSimpArgs false
theorem rfm_eq : rfm = frm := by
 funext op
 unfold rfm
 rw [rForm_eq]
 rfl
theorem rrg_eq : rrg = rgt := by
 funext x
 unfold rrg rgt
 rw [rRight_eq]
 rfl
theorem rEnds_eq (op rd u v m : Int) : whetstoneref08_Ends.f 200 op rd u v m = some (endq (op, rd, u, v, m)) := by
 rw [← blocks_Ends_eq op rd u v m 200 (by decide)]
 unfold whetstoneref08_Ends.f blocks_Ends.f
 rw [rRight_eq, Right_eq _ _ _ _ _ 200 (by decide), rForm_eq, Form_eq]
theorem rAfter_eq (a0 a1 a2 a3 a4 : Int) (n : Nat) (hn : n < 4294967296) : whetstoneref08_After.f a0 a1 a2 a3 a4 (n : Int) = some (castL (aftq (a0, a1, a2, a3, a4) n)) := by
 unfold whetstoneref08_After.f
 rw [if_pos ⟨⟨by omega, by omega⟩, by rw [rForm_eq]; rfl, by rw [rRight_eq]; rfl⟩, Int.toNat_natCast, rfm_eq, rrg_eq]
 rfl
theorem pAfter_eq (a0 a1 a2 a3 a4 : Int) (n : Nat) (hn : n < 4294967296) : blocks_After.f a0 a1 a2 a3 a4 (n : Int) = some (castL (aftq (a0, a1, a2, a3, a4) n)) := by
 unfold blocks_After.f
 rw [if_pos ⟨by omega, by omega⟩, Int.toNat_natCast]
 rfl
theorem law_BlocksAfter (a0 a1 a2 a3 a4 a : Int) (h : (Lit.int .u32 a).wf = true) : whetstonelaw08_BlocksAfter.f 200 a0 a1 a2 a3 a4 a = some true := by
 have ha := of_u32w h
 obtain ⟨n, rfl⟩ := Int.eq_ofNat_of_zero_le ha.1
 have hl := (aftq_facts (a0, a1, a2, a3, a4) n).1
 unfold whetstonelaw08_BlocksAfter.f
 rw [show whetstonelaw08_fixed.f = some true from rfl, obs, if_pos rfl, pAfter_eq _ _ _ _ _ n (by omega), obs, rAfter_eq _ _ _ _ _ n (by omega), obs, words_refl 200 _ (by simp [castL]; omega) (by simp [castL]; omega), obs, if_pos rfl, blocks_Ends_eq _ _ _ _ _ 200 (by decide), obs, rEnds_eq, obs]
 simp
theorem walk_BlocksAfter (a0 a1 a2 a3 a4 a : Int) (W : World) (w0 : (Lit.int .i64 a0).wf = true) (w1 : (Lit.int .i64 a1).wf = true) (w2 : (Lit.int .i64 a2).wf = true) (w3 : (Lit.int .i64 a3).wf = true) (w4 : (Lit.int .i64 a4).wf = true) (u : (Lit.int .u32 a).wf = true) :
  Calls Try.prog 3 #[.agg #[.int .i64 a0, .int .i64 a1, .int .i64 a2, .int .i64 a3, .int .i64 a4], .int .u32 a] W fun e w' => e = .returned (.bool true) ∧ Below W.heap.size W w' :=
 whetstonelaw08_BlocksAfter.calls 200 a0 a1 a2 a3 a4 a true W (law_BlocksAfter a0 a1 a2 a3 a4 a u)
end Go.Proofs.Ytekenddkoahjgaa.Q
