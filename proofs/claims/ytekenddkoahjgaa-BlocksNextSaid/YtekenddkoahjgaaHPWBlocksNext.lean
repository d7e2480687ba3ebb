import Derived.Test.YtekenddkoahjgaaHQx9
import Derived.Test.YtekenddkoahjgaaHQx32
import Derived.Test.YtekenddkoahjgaaHQx46
import Derived.Test.YtekenddkoahjgaaHPG
import Derived.Test.YtekenddkoahjgaaHPN
import Derived.WalkKit
import Derived.Outline
/- Layer 8: what the law PWBlocksNext answers. -/
namespace Go.Proofs.Ytekenddkoahjgaa.Q
open Go.RowKit Go.Proofs.YtekenddkoahjgaaW.PrintWords Go.Proofs.YtekenddkoahjgaaW.PrintLast Go.Proofs.YtekenddkoahjgaaW.PrintMore
set_option linter.unusedVariables false
set_option linter.unusedSimpArgs false
theorem nums_at (l : List Int) (hl : l.length < 1000000) : ∀ (d k j : Nat), j + d = l.length → d < k → r08_Nums.l0 k l l (j : Int) = some true
 | 0, k, j, hj, hk => by
  obtain ⟨k, rfl⟩ : ∃ m, k = m + 1 := ⟨k - 1, by omega⟩
  rw [r08_Nums.l0, if_neg (by omega)]
 | d + 1, k, j, hj, hk => by
  obtain ⟨k, rfl⟩ : ∃ m, k = m + 1 := ⟨k - 1, by omega⟩
  rw [r08_Nums.l0, if_pos (by omega), if_pos (by omega), if_pos (by omega), if_pos rfl, wrap_nat j (by omega)]
  exact nums_at l hl d k (j + 1) (by omega) (by omega)
theorem nums_refl (k : Nat) (l : List Int) (hl : l.length < 1000000) (hk : l.length < k) : r08_Nums.f k l l = some true := by
 unfold r08_Nums.f
 rw [if_pos rfl]
 exact nums_at l hl l.length k 0 (by omega) hk
theorem law_BlocksNext (b0 e0 : Int) (l : List Int) (s : Int) (l1 : List Int) (a2 : Int) (hb0 : 0 ≤ b0 ∧ b0 < 4294967296) (he0 : 0 ≤ e0 ∧ e0 < 4294967296) (hl : ∀ x ∈ l, 0 ≤ x ∧ x < 4294967296) (hl1 : ∀ x ∈ l1, 0 ≤ x ∧ x < 4294967296) :
  ∃ k, w08_BlocksNext.f k b0 e0 l s l1 a2 = some true := by
 obtain ⟨B, lt, es, hT, hmn, hes, I, k1⟩ := text_of b0 e0 l s l1 hb0 he0 hl hl1
 have f2 := I.rfind k1 0
 have hlen := (FDone_len I k1).1
 by_cases h0 : (findq B e0 lt es).2 = 0
 ·have W := WOk.make I k1 h0
  obtain ⟨R, hR⟩ : ∃ R, findq B e0 lt es = R := ⟨_, rfl⟩
  rw [hR] at f2 h0 W hlen
  have hl := nxtv_len (Iw B lt) aftq R.1 a2
  have g2 := rnext_f I W.bok 0 a2
  have g1 := pnext_ev I W.bok 0 a2
  generalize Bl.nxtv (Iw B lt) aftq R.1 a2 = z at *
  obtain ⟨k, hk⟩ := g1.and (Ev.of 1001 fun k hk => nums_refl k (castL z.1) (by simp [castL]; omega) (by simp [castL]; omega))
  refine ⟨k, ?_⟩
  obtain ⟨g1, g3⟩ := hk k (Nat.le_refl _)
  unfold w08_BlocksNext.f
  rw [hT, obs, if_pos hmn.1, if_pos hmn.2.1, hes]
  dsimp only
  rw [f2, obs, if_pos h0, g1, obs, g2, obs, g3, obs, if_pos rfl, if_pos (by simp)]
  rfl
 ·refine ⟨0, ?_⟩
  unfold w08_BlocksNext.f
  rw [hT, obs, if_pos hmn.1, if_pos hmn.2.1, hes]
  dsimp only
  rw [f2, obs, if_neg h0]
  rfl
theorem walk_BlocksNext (a0 a1 : Int) (A : Option Addr) (c : Nat) (l : List Int) (s : Int) (A1 : Option Addr) (c1 : Nat) (l1 : List Int) (a2 : Int) (W : World) (w0 : (Lit.int .u32 a0).wf = true) (w1 : (Lit.int .u32 a1).wf = true) (C : Kd.C (Kd.int .u32) W A l.length l) (b : l.length ≤ c) (m : c ≤ maxLen) (hw : ∀ x ∈ l, (Lit.int .u32 x).wf = true) (ws : (Lit.int .i64 s).wf = true)
  (C1 : Kd.C (Kd.int .u32) W A1 l1.length l1) (b1 : l1.length ≤ c1) (m1 : c1 ≤ maxLen) (hw1 : ∀ x ∈ l1, (Lit.int .u32 x).wf = true) (w2 : (Lit.int .i64 a2).wf = true) :
  Calls Try.prog 5 #[.agg #[.int .u32 a0, .int .u32 a1, .slice A l.length c, .int .i64 s], .slice A1 l1.length c1, .int .i64 a2] W fun e w' => e = .returned (.bool true) ∧ Below W.heap.size W w' := by
 obtain ⟨k, hk⟩ := law_BlocksNext a0 a1 l s l1 a2 (of_u32w w0) (of_u32w w1) (fun x hx => of_u32w (hw x hx)) (fun x hx => of_u32w (hw1 x hx))
 exact w08_BlocksNext.calls k a0 a1 A c l s A1 c1 l1 a2 true W C b C1 b1 hk
end Go.Proofs.Ytekenddkoahjgaa.Q
