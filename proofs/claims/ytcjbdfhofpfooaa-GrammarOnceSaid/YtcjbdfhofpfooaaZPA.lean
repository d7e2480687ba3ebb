import Derived.Test.YtcjbdfhofpfooaaZQx0
import Derived.Test.YtcjbdfhofpfooaaZQx10
import Derived.Test.YtcjbdfhofpfooaaZQx18
import Derived.Test.YtcjbdfhofpfooaaZQx2
import Derived.Test.YtcjbdfhofpfooaaZQx4
import Derived.Test.YtcjbdfhofpfooaaZQx5
import Derived.Test.YtcjbdfhofpfooaaZQx6
import Derived.Test.YtcjbdfhofpfooaaZQx7
import Derived.Test.YtcjbdfhofpfooaaZQx8
import Derived.Test.YtcjbdfhofpfooaaZQx9
import Derived.WalkKit
import Derived.Outline
namespace Go.Proofs.Ytcjbdfhofpfooaa.Q
open Go.RowKit Go.Proofs.YtcjbdfhofpfooaaW.PrintWords Go.Proofs.YtcjbdfhofpfooaaW.PrintLast Go.Proofs.YtcjbdfhofpfooaaW.PrintMore
set_option linter.unusedVariables false
set_option linter.unusedSimpArgs false
/-! ## layer 18, plain: what instructions cost -/
theorem wrap64_lit (n : Int) (h : -9223372036854775808 ≤ n) (h2 : n ≤ 9223372036854775807) : wrap64 n = n := by unfold wrap64; omega
theorem up_mono {α : Type} {F : Nat → Option α} (h : ∀ k, LeO (F k) (F (k + 1))) {a b : Nat} (hab : a ≤ b) {r : α} (ha : F a = some r) : F b = some r := by
  induction b with
  | zero =>
    obtain rfl : a = 0 := by omega
    exact ha
  | succ b ih =>
    by_cases e : a = b + 1
    · subst e; exact ha
    · exact h b r (ih (by omega))
theorem right_op {a0 a1 a2 a3 a4 : Int} (h : rightv a0 a1 a2 a3 a4 = true) : 0 ≤ a0 ∧ a0 < 47 := by
  unfold rightv at h
  rcases frm_cases a0 with ⟨_, h0⟩ | ⟨h1, _⟩
  · rw [h0] at h; simp at h
  · exact h1
/-- What each kind costs. -/
def cop (a : Int) : Int := rd [1, 1, 2, 2, 2, 2, 2, 2, 2, 2, 3, 3, 3, 3, 3, 3, 3, 3, 1, 1, 1, 1, 1, 1, 1, 1, 1, 1, 1, 1, 1, 1, 1, 1, 1, 1, 1, 4, 4, 4, 4, 20, 20, 20, 20, 50, 50] a
/-- What an instruction costs. -/
def cst (s : S25) : Int := if rightv s.f0 s.f1 s.f2 s.f3 s.f4 = true then (if (s.f0 == 18 && (s.f1 == 0 && (s.f2 == 0 && (s.f3 == 0 && (s.f4 == 0))))) = true then 0 else cop s.f0) else 1000
theorem cop_range : ∀ n : Fin 47, 0 ≤ cop (n.val : Int) ∧ cop (n.val : Int) ≤ 1000 := by decide +kernel
theorem cst_range (s : S25) : 0 ≤ cst s ∧ cst s ≤ 1000 := by
  unfold cst
  by_cases h : rightv s.f0 s.f1 s.f2 s.f3 s.f4 = true
  · rw [if_pos h]
    split
    · omega
    · obtain ⟨h1, h2⟩ := right_op h
      obtain ⟨n, e⟩ := Int.eq_ofNat_of_zero_le h1
      rw [e]
      exact cop_range ⟨n, by omega⟩
  · rw [if_neg h]; omega
theorem cost_tree (m : Nat) (f : Int) (b : Bool) (a x1 x2 x3 x4 : Int) : grammar_Cost.j0 (m + 4) f b a x1 x2 x3 x4 = grammar_Cost.j0 4 f b a 0 0 0 0 := by simp only [grammar_Cost.j0, grammar_Cost.j1, grammar_Cost.j2, grammar_Cost.j3]
theorem cost_all : ∀ n : Fin 47, (if (n.val : Int) ≥ 37 then grammar_Cost.j0 4 (frm n.val) (decide ((n.val : Int) ≤ 40)) n.val 0 0 0 0 else grammar_Cost.j0 4 (frm n.val) false n.val 0 0 0 0) = some (cop n.val) := by decide +kernel
theorem Cost_eq (s : S25) (k : Nat) (hk : 9 ≤ k) : grammar_Cost.f k s.f0 s.f1 s.f2 s.f3 s.f4 = some (cst s) := by
  obtain ⟨k, rfl⟩ : ∃ m, k = m + 4 := ⟨k - 4, by omega⟩
  unfold grammar_Cost.f cst grammar_Nop.f
  rw [Form_eq, obs, Right_eq _ _ _ _ _ _ (by omega), obs]
  by_cases h : rightv s.f0 s.f1 s.f2 s.f3 s.f4 = true
  · rw [if_pos h, if_pos h, obs]
    split
    · rfl
    · rw [cost_tree, cost_tree]
      obtain ⟨h1, h2⟩ := right_op h
      obtain ⟨n, e⟩ := Int.eq_ofNat_of_zero_le h1
      rw [e]
      exact cost_all ⟨n, by omega⟩
  · rw [if_neg h, if_neg h]
/-- What several cost. -/
def sumv (l : List S25) : Int := (l.map cst).sum
theorem sumv_cons (s : S25) (l : List S25) : sumv (s :: l) = cst s + sumv l := by simp [sumv]
theorem sumv_app (a b : List S25) : sumv (a ++ b) = sumv a + sumv b := by simp [sumv]
theorem sumv_range (l : List S25) : 0 ≤ sumv l ∧ sumv l ≤ 1000 * (l.length : Int) := by
  induction l with
  | nil => simp [sumv]
  | cons s l ih =>
    have := cst_range s
    rw [sumv_cons, List.length_cons]
    omega
theorem drop_at (l : List S25) (i : Nat) (h : i < l.length) : l.drop i = rd_T25 l (i : Int) :: l.drop (i + 1) := by
  rw [List.drop_eq_getElem_cons h]
  congr 1
  unfold rd_T25
  rw [Int.toNat_natCast, List.getD_eq_getElem?_getD, List.getElem?_eq_getElem h]
  rfl
theorem wrap_up (i : Nat) (h : i < 1000000000000) : wrap64 ((i : Int) + 1) = ((i + 1 : Nat) : Int) := by rw [wrap64_lit _ (by omega) (by omega)]; omega
theorem Sum_loop (l : List S25) (hl : l.length ≤ 1000000000) : ∀ d i k : Nat, ∀ x : Int, i + d = l.length → 0 ≤ x → x ≤ 1000 * (i : Int) → d + 9 < k → grammar_Sum.l0 k x l (l.length : Int) (i : Int) = some (x + sumv (l.drop i)) := by
  intro d
  induction d with
  | zero =>
    intro i k x hi h0 h1 hk
    obtain ⟨k, rfl⟩ : ∃ m, k = m + 1 := ⟨k - 1, by omega⟩
    simp only [grammar_Sum.l0]
    rw [if_neg (by omega), List.drop_of_length_le (by omega)]
    simp [sumv]
  | succ d ih =>
    intro i k x hi h0 h1 hk
    obtain ⟨k, rfl⟩ : ∃ m, k = m + 1 := ⟨k - 1, by omega⟩
    simp only [grammar_Sum.l0]
    have hr := cst_range (rd_T25 l (i : Int))
    rw [if_pos (by omega), if_pos (by omega), if_pos (by omega), Cost_eq _ _ (by omega), obs, wrap_up _ (by omega), wrap64_lit _ (by omega) (by omega), ih (i + 1) k _ (by omega) (by omega) (by omega) (by omega), drop_at l i (by omega), sumv_cons]
    congr 1
    omega
theorem Sum_eq (l : List S25) (hl : l.length ≤ 1000000000) (k : Nat) (hk : l.length + 9 < k) : grammar_Sum.f k l = some (sumv l) := by
  unfold grammar_Sum.f
  have := Sum_loop l hl l.length 0 k 0 (by omega) (by omega) (by omega) hk
  rw [List.drop_zero, Int.zero_add] at this
  exact this
/-! ## GrammarCosts, GrammarSums -/
end Go.Proofs.Ytcjbdfhofpfooaa.Q
