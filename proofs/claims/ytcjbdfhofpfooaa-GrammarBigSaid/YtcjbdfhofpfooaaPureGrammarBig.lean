import Derived.Test.YtcjbdfhofpfooaaQx17
import Derived.Test.YtcjbdfhofpfooaaQx7
import Derived.Test.YtcjbdfhofpfooaaPB
import Derived.WalkKit
import Derived.Outline
namespace Go.Proofs.Ytcjbdfhofpfooaa.Q
open Go.RowKit Go.Proofs.YtcjbdfhofpfooaaW.PrintWords Go.Proofs.YtcjbdfhofpfooaaW.PrintLast Go.Proofs.YtcjbdfhofpfooaaW.PrintMore
set_option linter.unusedVariables false
set_option linter.unusedSimpArgs false
/-! ## GrammarBig -/
theorem flat_len_eq {α : Type} (f : α → List Gm.In) (n : Nat) (l : List α) (h : ∀ x ∈ l, (f x).length = n) : (l.flatMap f).length = l.length * n := by
  induction l with
  | nil => simp
  | cons x l ih => rw [List.flatMap_cons, List.length_append, h x (by simp), ih (fun y hy => h y (by simp [hy])), List.length_cons, Nat.succ_mul, Nat.add_comm]
theorem frm27 : frm 27 = 82 := by decide
theorem knd27 : knd 27 = true := by decide +kernel
theorem big_right (rd a b : Int) (h1 : 0 ≤ rd ∧ rd ≤ 31) (h2 : 0 ≤ a ∧ a ≤ 31) (h3 : 0 ≤ b ∧ b ≤ 31) : rgt ⟨27, rd, a, b, 0⟩ = true := by
  unfold rgt rightv
  rw [frm27]
  simp [regv, hRd, hR1, hR2, numb, h1, h2, h3]
theorem big_len (rs : List Int) (h : ∀ r ∈ rs, 0 ≤ r ∧ r ≤ 31) : (Gm.allL frm rgt [27] rs []).length = rs.length * (rs.length * rs.length) := by
  unfold Gm.allL
  rw [List.filter_eq_self.mpr ?_]
  · rw [List.flatMap_cons, List.flatMap_nil, List.append_nil, frm27]
    unfold Gm.row1 Gm.row2 Gm.row3 Gm.sndL Gm.trdL
    rw [if_pos rfl, if_neg (by decide)]
    exact flat_len_eq _ _ _ fun x _ => flat_len_eq _ _ _ fun y _ => by rw [List.length_map]
  · intro x hx
    rw [List.flatMap_cons, List.flatMap_nil, List.append_nil, frm27] at hx
    unfold Gm.row1 Gm.row2 Gm.row3 Gm.sndL Gm.trdL at hx
    rw [if_pos rfl, if_neg (by decide)] at hx
    simp only [List.mem_flatMap, List.mem_map] at hx
    obtain ⟨rd, h1, a, h2, b, h3, rfl⟩ := hx
    unfold Gm.mkI
    rw [if_pos rfl]
    exact big_right rd a b (h rd h1) (h a h2) (h b h3)
theorem big_chk (rs : List Int) (h : ∀ r ∈ rs, 0 ≤ r ∧ r ≤ 31) : chk [27] rs [] 1 = if 4096 < rs.length * (rs.length * rs.length) then 2 else 0 := by
  unfold chk Gm.chkv
  rw [if_neg, big_len rs h]
  rintro (h1 | h1 | h1 | h1)
  · rw [List.any_cons, knd27] at h1; simp at h1
  · rw [List.any_eq_true] at h1
    obtain ⟨x, hx, hf⟩ := h1
    have := h x hx
    unfold Gm.far at hf
    rw [decide_eq_true_iff] at hf
    omega
  · omega
  · omega
theorem big_row : ∀ i : Nat, i ≤ 16 → ((List.range i).map (fun j : Nat => (j : Int))).length = i ∧ ∀ r ∈ (List.range i).map (fun j : Nat => (j : Int)), 0 ≤ r ∧ r ≤ 31 := by
  intro i hi
  refine ⟨by simp, fun r hr => ?_⟩
  simp only [List.mem_map, List.mem_range] at hr
  obtain ⟨j, hj, rfl⟩ := hr
  omega
theorem and31_range (x : Int) (h : (Lit.int .i64 x).wf = true) : 0 ≤ Go.bits .and .i64 x 31 ∧ Go.bits .and .i64 x 31 ≤ 31 := by
  have e := and_i64 x (of_i64 h) 5 (by omega)
  have e2 : Go.bits .and .i64 x 31 = x % 32 := e
  rw [e2]
  omega
theorem Big_loop (x : Int) (hx : 0 ≤ Go.bits .and .i64 x 31 ∧ Go.bits .and .i64 x 31 ≤ 31) : ∀ d i k : Nat, i + d = 16 → d + 1 < k → whetstonelaw18_GrammarBig.l0 k x (i : Int) [27] ((List.range i).map (fun j : Nat => (j : Int))) 1 = some true := by
  intro d
  induction d with
  | zero =>
    intro i k hi hk
    obtain ⟨k, rfl⟩ : ∃ m, k = m + 1 := ⟨k - 1, by omega⟩
    obtain rfl : i = 16 := by omega
    obtain ⟨hl, hr⟩ := big_row 16 (Nat.le_refl _)
    simp only [whetstonelaw18_GrammarBig.l0]
    generalize (List.range 16).map (fun j : Nat => (j : Int)) = rs at hl hr ⊢
    have hr2 : ∀ r ∈ rs ++ [Go.bits .and .i64 x 31], 0 ≤ r ∧ r ≤ 31 := by
      intro r h
      rcases List.mem_append.1 h with h | h
      · exact hr r h
      · rw [List.mem_singleton.1 h]; exact hx
    have hl2 : (rs ++ [Go.bits .and .i64 x 31]).length = 17 := by simp [hl]
    have c1 : grammar_Check.f [27] rs [] 1 = some 0 := by
      unfold grammar_Check.f
      rw [if_pos (by unfold szL; simp; omega), big_chk rs hr, hl]
      rfl
    have c2 : grammar_Check.f [27] (rs ++ [Go.bits .and .i64 x 31]) [] 1 = some 2 := by
      unfold grammar_Check.f
      rw [if_pos (by unfold szL; rw [hl2]; simp), big_chk _ hr2, hl2]
      rfl
    rw [if_neg (by decide), c1, obs, if_pos (by omega), c2, obs, if_pos rfl, if_pos rfl]
    rfl
  | succ d ih =>
    intro i k hi hk
    obtain ⟨k, rfl⟩ : ∃ m, k = m + 1 := ⟨k - 1, by omega⟩
    simp only [whetstonelaw18_GrammarBig.l0]
    rw [if_pos (by omega), if_pos (by simp; omega), wrap_up _ (by omega)]
    have := ih (i + 1) k (by omega) (by omega)
    rw [List.range_succ, List.map_append] at this
    exact this
theorem pure_GrammarBig : whetstonelaw18_GrammarBig.Pure := by
  intro a0 h
  exact ⟨20, Big_loop a0 (and31_range a0 h) 16 0 20 (by omega) (by omega)⟩
end Go.Proofs.Ytcjbdfhofpfooaa.Q
namespace Go.Proofs.Ytcjbdfhofpfooaa.Pure
open Go.RowKit Go.Proofs.Ytcjbdfhofpfooaa.Q
theorem GrammarBig : whetstonelaw18_GrammarBig.Pure := pure_GrammarBig
end Go.Proofs.Ytcjbdfhofpfooaa.Pure
