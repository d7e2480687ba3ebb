/- Layer 2, plain: PureInstTurned -/
import Derived.Test.YtoabchfdbjhjcaaQx43
import Derived.Test.YtoabchfdbjhjcaaTZ
namespace Go.Proofs.Ytoabchfdbjhjcaa.Q
open Go.RowKit Go.Proofs.YtoabchfdbjhjcaaW.PrintWords Go.Proofs.YtoabchfdbjhjcaaW.PrintLast Go.Proofs.YtoabchfdbjhjcaaW.PrintMore
set_option linter.unusedVariables false
set_option linter.unusedSimpArgs false
theorem law_InstTurned : whetstonelaw02_InstTurned.Pure := by
  intro a s h1 h2
  obtain ⟨w, rfl, hw⟩ := of_u32 h1
  refine ⟨200, ?_⟩
  obtain ⟨p, e, hp⟩ := i64_nat s h2 5 (by decide)
  have e : Go.bits .and .i64 s 31 = (p : Int) := e
  have hp : p < 32 := hp
  have hsh : shl .u32 1 (p : Int) = ((2 ^ p : Nat) : Int) := by
    have := shl_small 1 p 1 (by decide) (by omega)
    rw [Nat.one_mul] at this
    exact this
  have hpow : 2 ^ p < 4294967296 := Nat.pow_lt_pow_right (by decide) hp
  have hx : Go.bits .xor .u32 (w : Int) ((2 ^ p : Nat) : Int) = ((w ^^^ 2 ^ p : Nat) : Int) := u32_xor_nat _ _ hw hpow
  have hv : w ^^^ 2 ^ p < 4294967296 := Nat.xor_lt_two_pow (n := 32) hw hpow
  have hne : w ≠ w ^^^ 2 ^ p := by
    intro h
    have h3 : w ^^^ (w ^^^ 2 ^ p) = 0 := by rw [← h, Nat.xor_self]
    rw [← Nat.xor_assoc, Nat.xor_self, Nat.zero_xor] at h3
    have := Nat.pow_pos (n := p) (show 0 < 2 by decide)
    omega
  unfold whetstonelaw02_InstTurned.f
  rw [e, hsh, hx]
  generalize w ^^^ 2 ^ p = v at hv hne ⊢
  obtain ⟨x, x1, x2⟩ := Decode_tot w hw
  obtain ⟨y, y1, y2⟩ := Decode_tot v hv
  rw [x1, obs, if_pos (by omega), y1, obs, fixed_200, obs]
  rcases x2 with x2 | rfl
  · rw [if_pos x2]
    by_cases y3 : y.2.2.2.2.2 = 0
    · rw [if_pos y3]
      apply if_pos
      have hn : x ≠ y := fun h => hne (dec_inj w v hw hv x y x1 y1 x2 h)
      obtain ⟨p1, p2, p3, p4, p5, p6⟩ := x
      obtain ⟨q1, q2, q3, q4, q5, q6⟩ := y
      simp only at x2 y3 ⊢
      subst x2 y3
      by_cases g1 : p1 = q1
      · by_cases g2 : p2 = q2
        · by_cases g3 : p3 = q3
          · by_cases g4 : p4 = q4
            · by_cases g5 : p5 = q5
              · exfalso; apply hn; rw [g1, g2, g3, g4, g5]
              · simp [g5]
            · simp [g4]
          · simp [g3]
        · simp [g2]
      · simp [g1]
    · rw [if_neg y3]
  · rfl
end Go.Proofs.Ytoabchfdbjhjcaa.Q
namespace Go.Proofs.Ytoabchfdbjhjcaa.Pure
open Go.RowKit Go.Proofs.Ytoabchfdbjhjcaa.Q
theorem InstTurned : whetstonelaw02_InstTurned.Pure := law_InstTurned
end Go.Proofs.Ytoabchfdbjhjcaa.Pure
