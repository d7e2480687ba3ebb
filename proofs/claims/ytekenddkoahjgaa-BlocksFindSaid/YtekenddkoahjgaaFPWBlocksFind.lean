import Derived.Test.YtekenddkoahjgaaFQx3
import Derived.Test.YtekenddkoahjgaaFQx6
import Derived.Test.YtekenddkoahjgaaFQx11
import Derived.Test.YtekenddkoahjgaaFQx44
import Derived.Test.YtekenddkoahjgaaFPG
import Derived.Test.YtekenddkoahjgaaFPN
import Derived.WalkKit
import Derived.Outline
/- Layer 8: what the law PWBlocksFind answers. -/
namespace Go.Proofs.Ytekenddkoahjgaa.Q
open Go.RowKit Go.Proofs.YtekenddkoahjgaaW.PrintWords Go.Proofs.YtekenddkoahjgaaW.PrintLast Go.Proofs.YtekenddkoahjgaaW.PrintMore
set_option linter.unusedVariables false
set_option linter.unusedSimpArgs false
theorem find_l1 (b e s : Int) (lt es : List Int) (m : List (S40)) (f t : Int) (hk : Ev (fun k => whetstonelaw08_BlocksFind.l0 k es m f (wrap64 (t + 1)) b e lt s = some true)) :
  ∀ (d : Nat) (x : List (S40)) (j : Nat), x.length < 1000 → j + d = x.length → Ev (fun k => whetstonelaw08_BlocksFind.l1 k es m f t x (j : Int) b e lt s = some true)
 | 0, x, j, hx, h => hk.step fun k hk => by
  rw [whetstonelaw08_BlocksFind.l1, if_neg (by omega)]
  exact hk
 | d + 1, x, j, hx, h => (find_l1 b e s lt es m f t hk d (x.set j (⟨(rd_T40 x (j : Int)).f0, 0⟩ : S40)) (j + 1) (by simpa using hx) (by rw [List.length_set]; omega)).step fun k hk => by
  rw [whetstonelaw08_BlocksFind.l1, if_pos (by omega), if_pos (by omega), wrap_nat j (by omega)]
  exact hk
theorem law_BlocksFind (b0 e0 : Int) (l : List Int) (s : Int) (l1 : List Int) (hb0 : 0 ≤ b0 ∧ b0 < 4294967296) (he0 : 0 ≤ e0 ∧ e0 < 4294967296) (hl : ∀ x ∈ l, 0 ≤ x ∧ x < 4294967296) (hl1 : ∀ x ∈ l1, 0 ≤ x ∧ x < 4294967296) :
  ∃ k, whetstonelaw08_BlocksFind.f k b0 e0 l s l1 = some true := by
 obtain ⟨B, lt, es, hT, hmn, hes, I, k1⟩ := text_of b0 e0 l s l1 hb0 he0 hl hl1
 have f1 := (I.find k1 0).1
 have f2 := I.rfind k1 0
 have hlen := (FDone_len I k1).1
 obtain ⟨R, hR⟩ : ∃ R, findq B e0 lt es = R := ⟨_, rfl⟩
 rw [hR] at f1 f2 hlen
 have hS := Ev.of 50 fun k hk => same_refl k (R.1.map toB) (by simp; omega) (by simp; omega)
 have h2 : Ev (fun k => whetstonelaw08_BlocksFind.l0 k es (R.1.map toB) R.2 2 B e0 lt 0 = some true) := Ev.one fun k => by
  rw [whetstonelaw08_BlocksFind.l0, if_neg (by decide)]
  rfl
 have hst : ∀ t : Int, t < 2 → Ev (fun k => whetstonelaw08_BlocksFind.l0 k es (R.1.map toB) R.2 (wrap64 (t + 1)) B e0 lt 0 = some true) → Ev (fun k => whetstonelaw08_BlocksFind.l0 k es (R.1.map toB) R.2 t B e0 lt 0 = some true) := fun t ht h => by
  have h1 := find_l1 B e0 0 lt es (R.1.map toB) R.2 t h (R.1.map toB).length (R.1.map toB) 0 (by simp; omega) (Nat.zero_add _)
  have hj : Ev (fun k => whetstonelaw08_BlocksFind.j1 k es (R.1.map toB) R.2 t (R.1.map toB) false B e0 lt 0 = some true) := h1.step fun k hk => by
   rw [whetstonelaw08_BlocksFind.j1, if_neg (by decide)]
   exact hk
  refine (hj.and hS).step fun k hk => ?_
  rw [whetstonelaw08_BlocksFind.l0, if_pos ht, f1, obs]
  dsimp only
  rw [if_pos rfl, hk.2, obs]
  exact hk.1
 have e1 : wrap64 ((0 : Int) + 1) = 1 := by unfold wrap64; omega
 have e2 : wrap64 ((1 : Int) + 1) = 2 := by unfold wrap64; omega
 obtain ⟨k, hk⟩ := hst 0 (by decide) (by rw [e1]; exact hst 1 (by decide) (by rw [e2]; exact h2))
 refine ⟨k, ?_⟩
 unfold whetstonelaw08_BlocksFind.f
 rw [hT, obs, if_pos hmn.1, if_pos hmn.2.1, hes]
 dsimp only
 rw [f2, obs]
 exact hk k (Nat.le_refl _)
theorem walk_BlocksFind (a0 a1 : Int) (A : Option Addr) (c : Nat) (l : List Int) (s : Int) (A1 : Option Addr) (c1 : Nat) (l1 : List Int) (W : World) (w0 : (Lit.int .u32 a0).wf = true) (w1 : (Lit.int .u32 a1).wf = true) (C : Kd.C (Kd.int .u32) W A l.length l) (b : l.length ≤ c) (m : c ≤ maxLen) (hw : ∀ x ∈ l, (Lit.int .u32 x).wf = true) (ws : (Lit.int .i64 s).wf = true)
  (C1 : Kd.C (Kd.int .u32) W A1 l1.length l1) (b1 : l1.length ≤ c1) (m1 : c1 ≤ maxLen) (hw1 : ∀ x ∈ l1, (Lit.int .u32 x).wf = true) :
  Calls Try.prog 4 #[.agg #[.int .u32 a0, .int .u32 a1, .slice A l.length c, .int .i64 s], .slice A1 l1.length c1] W fun e w' => e = .returned (.bool true) ∧ Below W.heap.size W w' := by
 obtain ⟨k, hk⟩ := law_BlocksFind a0 a1 l s l1 (of_u32w w0) (of_u32w w1) (fun x hx => of_u32w (hw x hx)) (fun x hx => of_u32w (hw1 x hx))
 exact whetstonelaw08_BlocksFind.calls k a0 a1 A c l s A1 c1 l1 true W C b C1 b1 hk
end Go.Proofs.Ytekenddkoahjgaa.Q
