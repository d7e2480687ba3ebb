/- Layer 2, plain: PureInstBack -/
import Derived.Test.YtoabchfdbjhjcaaQx39
import Derived.Test.YtoabchfdbjhjcaaTZ
namespace Go.Proofs.Ytoabchfdbjhjcaa.Q
open Go.RowKit Go.Proofs.YtoabchfdbjhjcaaW.PrintWords Go.Proofs.YtoabchfdbjhjcaaW.PrintLast Go.Proofs.YtoabchfdbjhjcaaW.PrintMore
set_option linter.unusedVariables false
set_option linter.unusedSimpArgs false
theorem back_j0 (w : Nat) (hw : w < 4294967296) : whetstonelaw02_InstBack.j0 201 (w : Int) = some true := by
  simp only [whetstonelaw02_InstBack.j0]
  rw [fixed_200]
  rcases Dec_enc w hw with ⟨a0, a1, a2, a3, a4, d1, d2, d3⟩ | d1
  · rw [d1 200 (by decide), obs, if_pos rfl]
    simp only
    rw [d2 200 (by decide), obs, if_pos rfl, if_pos rfl, Right_eq _ _ _ _ _ 200 (by decide), d3, obs, if_pos rfl, obs]
  · rw [d1 200 (by decide), obs]; rfl
theorem law_InstBack (a0 a1 a2 a3 a4 b0 b1 b2 b3 b4 c : Int) (h : (Lit.int .u32 c).wf = true) : whetstonelaw02_InstBack.f 201 a0 a1 a2 a3 a4 b0 b1 b2 b3 b4 c = some true := by
  obtain ⟨w, rfl, hw⟩ := of_u32 h
  unfold whetstonelaw02_InstBack.f
  rw [back_j0 w hw]
  rcases Enc_cases a0 a1 a2 a3 a4 with ⟨_, u, hu, e1⟩ | ⟨_, e1⟩
  · obtain ⟨e1, e2⟩ := e1 201 (by decide)
    rcases Enc_cases b0 b1 b2 b3 b4 with ⟨_, v, hv, f1⟩ | ⟨_, f1⟩
    · obtain ⟨f1, f2⟩ := f1 201 (by decide)
      rw [e1, obs, f1, obs, if_pos rfl]
      simp only
      rw [e2, obs, if_pos rfl]
      simp only [beq_self_eq_true, Bool.not_true, Bool.or_false, Bool.false_eq_true, if_false, if_true]
      apply if_neg
      by_cases g : u = v
      · subst g
        have := Option.some.inj (e2.symm.trans f2)
        simp only [Prod.mk.injEq] at this
        obtain ⟨rfl, rfl, rfl, rfl, rfl, _⟩ := this
        simp
      · have h1 : ((u : Int) == (v : Int)) = false := beq_eq_false_iff_ne.mpr (by omega)
        rw [h1]
        have h2 : ¬ (a0 = b0 ∧ a1 = b1 ∧ a2 = b2 ∧ a3 = b3 ∧ a4 = b4) := by
          rintro ⟨rfl, rfl, rfl, rfl, rfl⟩
          have := Option.some.inj (e1.symm.trans f1)
          simp only [Prod.mk.injEq, and_true] at this
          omega
        intro h3
        apply h2
        simpa using h3
    · rw [e1, obs, f1 201 (by decide), obs, if_pos rfl]
      simp only
      rw [e2, obs, if_pos rfl]
      simp
  · rw [e1 201 (by decide), obs]
    rcases Enc_cases b0 b1 b2 b3 b4 with ⟨_, v, hv, f1⟩ | ⟨_, f1⟩
    · rw [(f1 201 (by decide)).1, obs]; rfl
    · rw [f1 201 (by decide), obs]; rfl
theorem walk_InstBack (a0_0 a0_1 a0_2 a0_3 a0_4 a1_0 a1_1 a1_2 a1_3 a1_4 a2 : Int) (W : World) (w0 : (Lit.int .i64 a0_0).wf = true) (w1 : (Lit.int .i64 a0_1).wf = true) (w2 : (Lit.int .i64 a0_2).wf = true) (w3 : (Lit.int .i64 a0_3).wf = true) (w4 : (Lit.int .i64 a0_4).wf = true)
    (v0 : (Lit.int .i64 a1_0).wf = true) (v1 : (Lit.int .i64 a1_1).wf = true) (v2 : (Lit.int .i64 a1_2).wf = true) (v3 : (Lit.int .i64 a1_3).wf = true) (v4 : (Lit.int .i64 a1_4).wf = true) (u2 : (Lit.int .u32 a2).wf = true) :
    Calls Try.prog 5 #[.agg #[.int .i64 a0_0, .int .i64 a0_1, .int .i64 a0_2, .int .i64 a0_3, .int .i64 a0_4], .agg #[.int .i64 a1_0, .int .i64 a1_1, .int .i64 a1_2, .int .i64 a1_3, .int .i64 a1_4], .int .u32 a2] W fun e w' => e = .returned (.bool true) ∧ Below W.heap.size W w' :=
  whetstonelaw02_InstBack.calls 201 a0_0 a0_1 a0_2 a0_3 a0_4 a1_0 a1_1 a1_2 a1_3 a1_4 a2 true W (law_InstBack a0_0 a0_1 a0_2 a0_3 a0_4 a1_0 a1_1 a1_2 a1_3 a1_4 a2 u2)
end Go.Proofs.Ytoabchfdbjhjcaa.Q
