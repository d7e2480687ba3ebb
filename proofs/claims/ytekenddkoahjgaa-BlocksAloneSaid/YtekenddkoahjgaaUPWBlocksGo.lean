import Derived.Test.YtekenddkoahjgaaUQx18
import Derived.Test.YtekenddkoahjgaaUQx28
import Derived.Test.YtekenddkoahjgaaUQx30
import Derived.Test.YtekenddkoahjgaaUQx38
import Derived.WalkKit
import Derived.Outline
/- Layer 8: what the law PWBlocksGo answers. -/
namespace Go.Proofs.Ytekenddkoahjgaa.Q
open Go.RowKit Go.Proofs.YtekenddkoahjgaaW.PrintWords Go.Proofs.YtekenddkoahjgaaW.PrintLast Go.Proofs.YtekenddkoahjgaaW.PrintMore
set_option linter.unusedVariables false
set_option linter.unusedSimpArgs false
theorem of_u32w {a : Int} (h : (Lit.int .u32 a).wf = true) : 0 ≤ a ∧ a < 4294967296 := by
 simp [Lit.wf, IntKind.min, IntKind.max, IntKind.signed, IntKind.bits] at h
 omega
theorem words_at (l : List Int) (hl : l.length < 9223372036854775807) : ∀ (d k j : Nat), j + d = l.length → d < k → whetstoneref07_Words.l0 k l l (j : Int) = some true := by
 intro d
 induction d with
 | zero =>
  intro k j hj hk
  obtain ⟨k, rfl⟩ : ∃ m, k = m + 1 := ⟨k - 1, by omega⟩
  simp only [whetstoneref07_Words.l0]
  rw [if_neg (by omega)]
 | succ d ih =>
  intro k j hj hk
  obtain ⟨k, rfl⟩ : ∃ m, k = m + 1 := ⟨k - 1, by omega⟩
  simp only [whetstoneref07_Words.l0]
  rw [if_pos (by omega), if_pos (by omega), if_pos (by omega), if_pos trivial, show wrap64 ((j : Int) + 1) = ((j + 1 : Nat) : Int) by unfold wrap64; omega]
  exact ih k (j + 1) (by omega) (by omega)
theorem words_refl (k : Nat) (l : List Int) (hl : l.length < 1000000) (hk : l.length < k) : whetstoneref07_Words.f k l l = some true := by
 unfold whetstoneref07_Words.f
 rw [if_pos rfl]
 exact words_at l (by omega) l.length k 0 (by omega) hk
theorem aftq_two (x : Bl.Ins) (a : Nat) (h : 2 ≤ (aftq x a).length) : ∃ p q, aftq x a = [p, q] ∧ p < q := by
 unfold aftq Bl.aftv at h ⊢
 split at h
 ·simp at h
 split at h
 ·simp at h
 split at h
 ·rename_i h1 h2 h3
  rw [if_neg h1, if_neg h2, if_pos h3]
  unfold Bl.dd at h ⊢
  split at h
  ·rename_i hl
   rw [if_pos hl]
   exact ⟨_, _, rfl, hl⟩
  split at h
  ·rename_i hl hl2
   rw [if_neg hl, if_pos hl2]
   exact ⟨_, _, rfl, hl2⟩
  ·simp at h
 split at h
 ·simp at h
 ·simp at h
theorem aftq_plain (x : Bl.Ins) (a : Nat) (h : endq x = false) : aftq x a = [Bl.nextv a] := by
 unfold endq Bl.endv at h
 simp only [Bool.or_eq_false_iff, Bool.not_eq_false', decide_eq_false_iff_not] at h
 obtain ⟨⟨⟨⟨h1, h2⟩, h3⟩, h4⟩, h5⟩ := h
 unfold aftq Bl.aftv
 rw [if_neg (fun h => h.elim (fun h => by rw [h1] at h; cases h) h5), if_neg (fun h => h3 h.1), if_neg (fun h => h.elim h3 h2), if_neg (fun h => h4 h.1)]
theorem law_BlocksGo (a0 a1 a2 a3 a4 a : Int) (h : (Lit.int .u32 a).wf = true) : whetstonelaw08_BlocksGo.f 9 a0 a1 a2 a3 a4 a = some true := by
 have ha := of_u32w h
 obtain ⟨n, rfl⟩ := Int.eq_ofNat_of_zero_le ha.1
 have hA : blocks_After.f a0 a1 a2 a3 a4 (n : Int) = some (castL (aftq (a0, a1, a2, a3, a4) n)) := by
  unfold blocks_After.f
  rw [if_pos ha, Int.toNat_natCast]
  rfl
 unfold whetstonelaw08_BlocksGo.f
 rw [hA, obs, blocks_Ends_eq _ _ _ _ _ 9 (by decide), obs]
 have hl : ((castL (aftq (a0, a1, a2, a3, a4) n)).length : Int) = ((aftq (a0, a1, a2, a3, a4) n).length : Int) := by simp [castL]
 cases he : endq (a0, a1, a2, a3, a4) with
 | true =>
  have h2 := (aftq_facts (a0, a1, a2, a3, a4) n).1
  rw [if_pos rfl, hl, if_pos (by omega)]
  by_cases hlt : (aftq (a0, a1, a2, a3, a4) n).length < 2
  ·rw [if_pos (by omega)]
   rfl
  ·obtain ⟨p, q, e, hpq⟩ := aftq_two _ _ (Nat.not_lt.1 hlt)
   rw [e, if_neg (by simp [castL]), if_pos (by simp [castL]), if_pos (by simp [castL])]
   have e2 : rd (castL [p, q]) 0 < rd (castL [p, q]) 1 := by
    show ((p : Nat) : Int) < ((q : Nat) : Int)
    omega
   rw [if_pos e2]
   rfl
 | false =>
  rw [if_neg (by decide), aftq_plain _ _ he]
  have e : castL [Bl.nextv n] = [((n : Int) + 4) % 4294967296] := by
   show [((Bl.nextv n : Nat) : Int)] = _
   unfold Bl.nextv
   simp
  rw [e, words_refl 9 _ (by simp) (by simp), obs, if_pos rfl]
  rfl
theorem walk_BlocksGo (a0 a1 a2 a3 a4 a : Int) (W : World) (w0 : (Lit.int .i64 a0).wf = true) (w1 : (Lit.int .i64 a1).wf = true) (w2 : (Lit.int .i64 a2).wf = true) (w3 : (Lit.int .i64 a3).wf = true) (w4 : (Lit.int .i64 a4).wf = true) (u : (Lit.int .u32 a).wf = true) :
  Calls Try.prog 8 #[.agg #[.int .i64 a0, .int .i64 a1, .int .i64 a2, .int .i64 a3, .int .i64 a4], .int .u32 a] W fun e w' => e = .returned (.bool true) ∧ Below W.heap.size W w' :=
 whetstonelaw08_BlocksGo.calls 9 a0 a1 a2 a3 a4 a true W (law_BlocksGo a0 a1 a2 a3 a4 a u)
end Go.Proofs.Ytekenddkoahjgaa.Q
