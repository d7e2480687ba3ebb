/- Layer 2, plain: PureInstBits -/
import Derived.Test.YtoabchfdbjhjcaaQx41
import Derived.Test.YtoabchfdbjhjcaaTZ
namespace Go.Proofs.Ytoabchfdbjhjcaa.Q
open Go.RowKit Go.Proofs.YtoabchfdbjhjcaaW.PrintWords Go.Proofs.YtoabchfdbjhjcaaW.PrintLast Go.Proofs.YtoabchfdbjhjcaaW.PrintMore
set_option linter.unusedVariables false
set_option linter.unusedSimpArgs false
theorem law_InstBits (a0 a1 a2 a3 a4 s : Int) (h : (Lit.int .i64 s).wf = true) : whetstonelaw02_InstBits.f 201 a0 a1 a2 a3 a4 s = some true := by
  obtain ⟨p, e, hp⟩ := i64_nat s h 5 (by decide)
  have e : Go.bits .and .i64 s 31 = (p : Int) := e
  have hp : p < 32 := hp
  unfold whetstonelaw02_InstBits.f
  rw [e]
  simp only [whetstonelaw02_InstBits.j0, fixed_200, obs]
  rcases Enc_cases a0 a1 a2 a3 a4 with ⟨hr, u, hu, e1⟩ | ⟨_, e1⟩
  · rcases Enc_cases a0 (p : Int) a2 a3 a4 with ⟨hs, v, hv, f1⟩ | ⟨_, f1⟩
    · have e1' := (e1 201 (by decide)).1
      have f1' := (f1 201 (by decide)).1
      rw [e1', f1', obs, obs, if_pos rfl]
      simp only
      suffices hh : Go.bits .andNot .u32 (Go.bits .xor .u32 (u : Int) (v : Int)) 3968 = 0 by
        rw [hh]; simp
      have hin : 0 ≤ a0 ∧ a0 < 47 := by
        apply Classical.byContradiction
        intro h
        rw [right_out a0 a1 a2 a3 a4 h] at hr
        cases hr
      by_cases h45 : a0 < 45
      · obtain ⟨n, rfl⟩ := Int.eq_ofNat_of_zero_le hin.1
        have hn : n < 45 := by omega
        obtain ⟨a, b, c, d, R⟩ := row_at n hn
        rw [right_row R hn] at hr hs
        simp only [Bool.and_eq_true] at hr hs
        obtain ⟨g1, g2, g3, g4⟩ := hr
        obtain ⟨s1, _, _, _⟩ := hs
        obtain ⟨rd, rfl, hrd, zd⟩ := regv_nat _ _ g1
        obtain ⟨q, hq, hq2, zq⟩ := regv_nat _ _ s1
        obtain rfl : p = q := by omega
        obtain ⟨r1, rfl, hr1, z1⟩ := regv_nat _ _ g2
        obtain ⟨r2, rfl, hr2, z2⟩ := regv_nat _ _ g3
        have k1 := Encode_some R hn rd r1 r2 a4 hrd hr1 hr2 zd z1 z2 g4 201 (by decide)
        have k2 := Encode_some R hn p r1 r2 a4 hp hr1 hr2 zq z1 z2 g4 201 (by decide)
        have k1 := Option.some.inj (e1'.symm.trans k1)
        have k2 := Option.some.inj (f1'.symm.trans k2)
        simp only [Prod.mk.injEq, and_true] at k1 k2
        have k1 : u = encw a b c d rd r1 r2 (a4 % 4294967296).toNat := by omega
        have k2 : v = encw a b c d p r1 r2 (a4 % 4294967296).toNat := by omega
        have hd : hRd a = true ∨ rd = p := by
          cases hc : hRd a
          · right; rw [zd hc, zq hc]
          · left; rfl
        obtain ⟨x1, x2⟩ := encw_rd a b c d rd p r1 r2 (a4 % 4294967296).toNat R.hb hrd hp hd
        rw [← k1, ← k2] at x1 x2
        exact andNot0 u v hu hv x1 x2
      · have ho : a0 = 45 ∨ a0 = 46 := by omega
        obtain ⟨x1, _⟩ := (right_e a0 ho a1 a2 a3 a4).mp hr
        obtain ⟨y1, _⟩ := (right_e a0 ho (p : Int) a2 a3 a4).mp hs
        rw [x1, ← y1] at e1'
        have := Option.some.inj (e1'.symm.trans f1')
        simp only [Prod.mk.injEq, and_true] at this
        obtain rfl : u = v := by omega
        exact andNot0 u u hu hu rfl rfl
    · rw [(e1 201 (by decide)).1, f1 201 (by decide), obs, obs]; rfl
  · rcases Enc_cases a0 (p : Int) a2 a3 a4 with ⟨hs, v, hv, f1⟩ | ⟨_, f1⟩
    · rw [e1 201 (by decide), (f1 201 (by decide)).1, obs, obs]; rfl
    · rw [e1 201 (by decide), f1 201 (by decide), obs, obs]; rfl
theorem walk_InstBits (a0_0 a0_1 a0_2 a0_3 a0_4 a1 : Int) (W : World) (w0 : (Lit.int .i64 a0_0).wf = true) (w1 : (Lit.int .i64 a0_1).wf = true) (w2 : (Lit.int .i64 a0_2).wf = true) (w3 : (Lit.int .i64 a0_3).wf = true) (w4 : (Lit.int .i64 a0_4).wf = true) (v1 : (Lit.int .i64 a1).wf = true) :
    Calls Try.prog 7 #[.agg #[.int .i64 a0_0, .int .i64 a0_1, .int .i64 a0_2, .int .i64 a0_3, .int .i64 a0_4], .int .i64 a1] W fun e w' => e = .returned (.bool true) ∧ Below W.heap.size W w' :=
  whetstonelaw02_InstBits.calls 201 a0_0 a0_1 a0_2 a0_3 a0_4 a1 true W (law_InstBits a0_0 a0_1 a0_2 a0_3 a0_4 a1 v1)
end Go.Proofs.Ytoabchfdbjhjcaa.Q
