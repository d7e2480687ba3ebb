/- Layer 2, plain: TC -/
import Derived.Test.YtoabchfdbjhjcaaQx10
import Derived.Test.YtoabchfdbjhjcaaQx13
import Derived.Test.YtoabchfdbjhjcaaQx2
import Derived.Test.YtoabchfdbjhjcaaQx29
import Derived.Test.YtoabchfdbjhjcaaQx30
import Derived.Test.YtoabchfdbjhjcaaQx31
import Derived.Test.YtoabchfdbjhjcaaQx32
import Derived.Test.YtoabchfdbjhjcaaQx33
import Derived.Test.YtoabchfdbjhjcaaQx36
import Derived.Test.YtoabchfdbjhjcaaQx44
import Derived.Test.YtoabchfdbjhjcaaQx45
import Derived.Test.YtoabchfdbjhjcaaTB
namespace Go.Proofs.Ytoabchfdbjhjcaa.Q
open Go.RowKit Go.Proofs.YtoabchfdbjhjcaaW.PrintWords Go.Proofs.YtoabchfdbjhjcaaW.PrintLast Go.Proofs.YtoabchfdbjhjcaaW.PrintMore
set_option linter.unusedVariables false
set_option linter.unusedSimpArgs false
theorem fixed_200 : whetstonelaw02_fixed.f 200 = some true := by decide +kernel
theorem fixed_ok (k : Nat) (hk : 200 ≤ k) : whetstonelaw02_fixed.f k = some true := at_rounds (g := fun k => whetstonelaw02_fixed.f k) whetstonelaw02_fixed.mono hk fixed_200
theorem wrap64_lit (n : Int) (h : -9223372036854775808 ≤ n) (h2 : n ≤ 9223372036854775807) : wrap64 n = n := by unfold wrap64; omega
theorem rPlain_none (a : Int) (h : ¬ (18 ≤ a ∧ a ≤ 26)) : whetstoneref02_Plain.f 200 a = some (0, false) := by
  have e (j : Nat) (hj : j < 9) : rd ([18, 19, 20, 21, 22, 23, 24, 25, 26] : List Int) (j : Int) ≠ a := by
    have : ∀ j : Fin 9, 18 ≤ rd ([18, 19, 20, 21, 22, 23, 24, 25, 26] : List Int) (j.val : Int) ∧ rd ([18, 19, 20, 21, 22, 23, 24, 25, 26] : List Int) (j.val : Int) ≤ 26 := by decide
    have := this ⟨j, hj⟩
    simp only at this
    omega
  have go : ∀ d k j : Nat, j + d = 9 → d < k → whetstoneref02_Plain.l0 k a ([18, 19, 20, 21, 22, 23, 24, 25, 26] : List Int) ([27, 30, 31, 32, 35, 36, 29, 33, 34] : List Int) (j : Int) = some (0, false) := by
    intro d
    induction d with
    | zero =>
      intro k j hj hk
      obtain ⟨k, rfl⟩ : ∃ m, k = m + 1 := ⟨k - 1, by omega⟩
      obtain rfl : j = 9 := by omega
      simp only [whetstoneref02_Plain.l0]
      rfl
    | succ d ih =>
      intro k j hj hk
      obtain ⟨k, rfl⟩ : ∃ m, k = m + 1 := ⟨k - 1, by omega⟩
      simp only [whetstoneref02_Plain.l0]
      rw [if_pos (by simp; omega), if_pos (by omega), if_neg (e j (by omega)), show wrap64 ((j : Int) + 1) = ((j + 1 : Nat) : Int) by rw [wrap64_lit _ (by omega) (by omega)]; omega]
      exact ih k (j + 1) (by omega) (by omega)
  exact go 9 200 0 (by omega) (by omega)
theorem Plain_none (a : Int) (h : ¬ (18 ≤ a ∧ a ≤ 26)) : inst_Plain.f a = some (0, false) := by
  unfold inst_Plain.f
  rw [if_neg (by omega), if_neg (by omega), if_neg (by omega), if_neg (by omega), if_neg (by omega), if_neg (by omega), if_neg (by omega), if_neg (by omega), if_neg (by omega)]
theorem rForm_out (a : Int) (h : ¬ (0 ≤ a ∧ a < 47)) : whetstoneref02_Form.f a = some 0 := by
  unfold whetstoneref02_Form.f
  by_cases h1 : a < 0
  · rw [if_pos h1]
  · rw [if_neg h1]
    show (if a ≥ 47 then _ else _) = _
    rw [if_pos (by omega)]
theorem Form_out (a : Int) (h : ¬ (0 ≤ a ∧ a < 47)) : inst_Form.f a = some 0 := by unfold inst_Form.f; rw [if_neg h]
/-! ## closed forms -/
/-- The form of a kind. -/
def frm (op : Int) : Int := if 0 ≤ op ∧ op < 47 then (kGet op.toNat).1 else 0
theorem Form_eq (op : Int) : inst_Form.f op = some (frm op) := rfl
theorem frm_in : ∀ n : Fin 47, (kGet n.val).1 = 85 ∨ (kGet n.val).1 = 74 ∨ (kGet n.val).1 = 73 ∨ (kGet n.val).1 = 66 ∨ (kGet n.val).1 = 83 ∨ (kGet n.val).1 = 72 ∨ (kGet n.val).1 = 82 ∨ (kGet n.val).1 = 69 := by decide
theorem frm_cases (op : Int) : (¬ (0 ≤ op ∧ op < 47) ∧ frm op = 0) ∨ ((0 ≤ op ∧ op < 47) ∧ (frm op = 85 ∨ frm op = 74 ∨ frm op = 73 ∨ frm op = 66 ∨ frm op = 83 ∨ frm op = 72 ∨ frm op = 82 ∨ frm op = 69)) := by
  by_cases h : 0 ≤ op ∧ op < 47
  · right
    obtain ⟨n, rfl⟩ := Int.eq_ofNat_of_zero_le h.1
    refine ⟨h, ?_⟩
    unfold frm
    rw [if_pos h, Int.toNat_natCast]
    exact frm_in ⟨n, by omega⟩
  · left; refine ⟨h, ?_⟩; unfold frm; rw [if_neg h]
/-- Which registers a form has. -/
def hRd (f : Int) : Bool := decide (f = 85 ∨ f = 74 ∨ f = 73 ∨ f = 72 ∨ f = 82)
def hR1 (f : Int) : Bool := decide (f = 73 ∨ f = 72 ∨ f = 66 ∨ f = 83 ∨ f = 82)
def hR2 (f : Int) : Bool := decide (f = 66 ∨ f = 83 ∨ f = 82)
theorem has_eq (f : Int) (k : Nat) (hk : 4 ≤ k) : inst_has.f k f = some (hRd f, hR1 f, hR2 f) := by
  obtain ⟨k, rfl⟩ : ∃ m, k = m + 4 := ⟨k - 4, by omega⟩
  unfold hRd hR1 hR2 inst_has.f
  by_cases h1 : f = 85
  · subst h1; rfl
  by_cases h2 : f = 74
  · subst h2; rfl
  by_cases h3 : f = 73
  · subst h3; rfl
  by_cases h4 : f = 72
  · subst h4; rfl
  by_cases h5 : f = 66
  · subst h5; rfl
  by_cases h6 : f = 83
  · subst h6; rfl
  by_cases h7 : f = 82
  · subst h7; rfl
  rw [if_neg h1, show (f == 74) = false from beq_eq_false_iff_ne.mpr h2]
  simp only [inst_has.j0, inst_has.j1, inst_has.j2]
  rw [if_neg (by decide), if_neg h3, show (f == 72) = false from beq_eq_false_iff_ne.mpr h4, if_neg (by decide), if_neg h5, show (f == 83) = false from beq_eq_false_iff_ne.mpr h6, if_neg (by decide), if_neg h7]
  simp [h1, h2, h3, h4, h5, h6, h7]
/-- May a number be, of a form. -/
def numb (f m : Int) : Bool :=
  if f = 85 then decide (0 ≤ m ∧ m ≤ 1048575) else if f = 74 then decide (-1048576 ≤ m ∧ m ≤ 1048574 ∧ m % 2 = 0)
  else if f = 73 ∨ f = 83 then decide (-2048 ≤ m ∧ m ≤ 2047) else if f = 66 then decide (-4096 ≤ m ∧ m ≤ 4094 ∧ m % 2 = 0)
  else if f = 72 then decide (0 ≤ m ∧ m ≤ 31) else decide (m = 0)
theorem between_eq (a b c : Int) : inst_between.f a b c = some (decide (b ≤ a ∧ a ≤ c)) := by
  unfold inst_between.f
  by_cases h : a ≥ b
  · rw [if_pos h]; congr 1; rw [decide_eq_decide]; omega
  · rw [if_neg h, decide_eq_false (by omega)]
theorem tmod2 (m : Int) : (Int.tmod m 2 == 0) = decide (m % 2 = 0) := by
  have h : (Int.tmod m 2 = 0) ↔ (m % 2 = 0) := by
    rw [← Int.dvd_iff_tmod_eq_zero, Int.dvd_iff_emod_eq_zero]
  by_cases e : m % 2 = 0
  · rw [decide_eq_true e, beq_iff_eq.mpr (h.mpr e)]
  · rw [decide_eq_false e]; exact beq_eq_false_iff_ne.mpr (fun q => e (h.mp q))
theorem ite_and (p q : Prop) [Decidable p] [Decidable q] : (if decide p = true then some (decide q) else some false) = some (decide (p ∧ q)) := by
  by_cases h : p
  · simp [h]
  · simp [h]
theorem number_eq (f m : Int) (k : Nat) (hk : 1 ≤ k) : inst_number.f k f m = some (numb f m) := by
  obtain ⟨k, rfl⟩ : ∃ m, k = m + 1 := ⟨k - 1, by omega⟩
  unfold numb inst_number.f
  by_cases h1 : f = 85
  · rw [if_pos h1, if_pos h1, between_eq, obs]
  rw [if_neg h1, if_neg h1]
  by_cases h2 : f = 74
  · rw [if_pos h2, if_pos h2, between_eq, obs, tmod2, ite_and]; congr 1; rw [decide_eq_decide]; omega
  rw [if_neg h2, if_neg h2]
  simp only [inst_number.j0, between_eq, obs, tmod2, ite_and]
  by_cases h3 : f = 73
  · subst h3; rfl
  by_cases h4 : f = 83
  · subst h4; rfl
  rw [if_neg h3, show (f == 83) = false from beq_eq_false_iff_ne.mpr h4, if_neg (by decide), if_neg (show ¬ (f = 73 ∨ f = 83) by omega)]
  by_cases h5 : f = 66
  · rw [if_pos h5, if_pos h5]; congr 1; rw [decide_eq_decide]; omega
  rw [if_neg h5, if_neg h5]
  by_cases h6 : f = 72
  · rw [if_pos h6, if_pos h6]
  rw [if_neg h6, if_neg h6]
  rfl
/-- May a register be. -/
def regv (b : Bool) (n : Int) : Bool := decide ((b = true ∧ 0 ≤ n ∧ n ≤ 31) ∨ n = 0)
theorem register_eq (b : Bool) (n : Int) : inst_register.f b n = some (regv b n) := by
  unfold inst_register.f regv
  cases b
  · rw [if_neg (by decide)]; congr 1; by_cases h : n = 0 <;> simp [h]
  · rw [if_pos rfl, between_eq, obs]
    by_cases h : 0 ≤ n ∧ n ≤ 31
    · rw [if_pos (decide_eq_true h), decide_eq_true (Or.inl ⟨rfl, h⟩)]
    · rw [if_neg (by rw [decide_eq_false h]; decide)]; congr 1
      by_cases h0 : n = 0
      · omega
      · rw [show (n == 0) = false from beq_eq_false_iff_ne.mpr h0, decide_eq_false (by omega)]
/-- May an instruction be. -/
def rightv (a0 a1 a2 a3 a4 : Int) : Bool := decide (frm a0 ≠ 0) && (regv (hRd (frm a0)) a1 && (regv (hR1 (frm a0)) a2 && (regv (hR2 (frm a0)) a3 && numb (frm a0) a4)))
theorem Right_eq (a0 a1 a2 a3 a4 : Int) (k : Nat) (hk : 4 ≤ k) : inst_Right.f k a0 a1 a2 a3 a4 = some (rightv a0 a1 a2 a3 a4) := by
  unfold inst_Right.f rightv
  rw [Form_eq, obs, has_eq _ k hk, obs]
  by_cases h : frm a0 = 0
  · rw [if_pos h, decide_eq_false (by simp [h])]; rfl
  rw [if_neg h, decide_eq_true h, register_eq, obs, register_eq, obs, register_eq, obs, number_eq _ _ k (by omega), obs]
  cases regv (hRd (frm a0)) a1 <;> cases regv (hR1 (frm a0)) a2 <;> cases regv (hR2 (frm a0)) a3 <;> rfl
theorem right_zero (a0 : Int) (h : 0 ≤ a0 ∧ a0 < 47) : rightv a0 0 0 0 0 = true := by
  rcases frm_cases a0 with ⟨h1, _⟩ | ⟨_, h2 | h2 | h2 | h2 | h2 | h2 | h2 | h2⟩
  · exact absurd h h1
  all_goals (unfold rightv; rw [h2]; decide)
end Go.Proofs.Ytoabchfdbjhjcaa.Q
