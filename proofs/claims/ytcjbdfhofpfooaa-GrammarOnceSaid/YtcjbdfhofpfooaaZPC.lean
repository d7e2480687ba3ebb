import Derived.Test.YtcjbdfhofpfooaaZQx0
import Derived.Test.YtcjbdfhofpfooaaZQx11
import Derived.Test.YtcjbdfhofpfooaaZQx12
import Derived.Test.YtcjbdfhofpfooaaZQx13
import Derived.Test.YtcjbdfhofpfooaaZQx14
import Derived.Test.YtcjbdfhofpfooaaZQx15
import Derived.Test.YtcjbdfhofpfooaaZQx16
import Derived.Test.YtcjbdfhofpfooaaZQx17
import Derived.Test.YtcjbdfhofpfooaaZQx7
import Derived.Test.YtcjbdfhofpfooaaZQx8
import Derived.Test.YtcjbdfhofpfooaaZPB
import Derived.WalkKit
import Derived.Outline
namespace Go.Proofs.Ytcjbdfhofpfooaa.Q
open Go.RowKit Go.Proofs.YtcjbdfhofpfooaaW.PrintWords Go.Proofs.YtcjbdfhofpfooaaW.PrintLast Go.Proofs.YtcjbdfhofpfooaaW.PrintMore
set_option linter.unusedVariables false
set_option linter.unusedSimpArgs false
/-! ## the reference's instructions -/
/-- Told by some number of rounds. -/
def Ev {α : Type} (F : Nat → Option α) (r : α) : Prop := ∃ k, F k = some r
theorem ev_at {α : Type} {F : Nat → Option α} {r : α} (hm : ∀ k, LeO (F k) (F (k + 1))) (h : Ev F r) (k0 : Nat) : ∃ k, k0 ≤ k ∧ F k = some r := by
  obtain ⟨k, hk⟩ := h
  exact ⟨k0 + k, by omega, up_mono hm (by omega) hk⟩
theorem int_drop (l : List Int) (i : Nat) (h : i < l.length) : l.drop i = rd l (i : Int) :: l.drop (i + 1) := by
  rw [List.drop_eq_getElem_cons h]
  congr 1
  unfold rd
  rw [Int.toNat_natCast, List.getD_eq_getElem?_getD, List.getElem?_eq_getElem h]
  rfl
section
variable (ops regs imms : List Int) (len : Int)
theorem one_l0 (op rg : Int) (hi : imms.length ≤ 99) : ∀ d i : Nat, ∀ acc : List S25, i + d = imms.length → acc.length + d ≤ 1000000 →
    Ev (fun k => whetstoneref18_one.l0 k op rg acc (i : Int) ops regs imms len) (acc ++ (imms.drop i).map (fun b => (⟨op, rg, 0, 0, b⟩ : S25))) := by
  intro d
  induction d with
  | zero =>
    intro i acc h1 h2
    refine ⟨1, ?_⟩
    simp only [whetstoneref18_one.l0]
    rw [if_neg (by omega), List.drop_of_length_le (by omega), List.map_nil, List.append_nil]
  | succ d ih =>
    intro i acc h1 h2
    obtain ⟨k, hk⟩ := ih (i + 1) (acc ++ [⟨op, rg, 0, 0, rd imms (i : Int)⟩]) (by omega) (by rw [List.length_append, List.length_singleton]; omega)
    refine ⟨k + 1, ?_⟩
    simp only [whetstoneref18_one.l0]
    rw [if_pos (by omega), if_pos (by omega), if_pos (by omega), wrap_up _ (by omega), int_drop imms i (by omega), List.map_cons]
    rw [List.append_assoc] at hk
    exact hk
theorem one_l2 (op rg f : Int) (i : Nat) (hr : regs.length ≤ 99) (hi : i < regs.length) (r : List S25) : ∀ d j : Nat, ∀ acc : List S25, j + d = regs.length → acc.length + d ≤ 1000000 →
    Ev (fun k => whetstoneref18_one.l1 k op rg f (acc ++ (regs.drop j).map (fun b => (⟨op, rg, rd regs (i : Int), b, 0⟩ : S25))) ((i + 1 : Nat) : Int) ops regs imms len) r →
    Ev (fun k => whetstoneref18_one.l2 k op rg f acc (i : Int) (j : Int) ops regs imms len) r := by
  intro d
  induction d with
  | zero =>
    intro j acc h1 h2 h
    rw [List.drop_of_length_le (by omega), List.map_nil, List.append_nil] at h
    obtain ⟨k, hk⟩ := h
    refine ⟨k + 1, ?_⟩
    simp only [whetstoneref18_one.l2]
    rw [if_neg (by omega), wrap_up _ (by omega)]
    exact hk
  | succ d ih =>
    intro j acc h1 h2 h
    rw [int_drop regs j (by omega), List.map_cons] at h
    obtain ⟨k, hk⟩ := ih (j + 1) (acc ++ [⟨op, rg, rd regs (i : Int), rd regs (j : Int), 0⟩]) (by omega) (by rw [List.length_append, List.length_singleton]; omega) (by rw [List.append_assoc]; exact h)
    refine ⟨k + 1, ?_⟩
    simp only [whetstoneref18_one.l2]
    rw [if_pos (by omega), if_pos (by omega), if_pos (by omega), if_pos (by omega), if_pos (by omega), wrap_up _ (by omega)]
    exact hk
theorem one_l3 (op rg f : Int) (i : Nat) (hr : imms.length ≤ 99) (hi : i < regs.length) (hr2 : regs.length ≤ 99) (r : List S25) : ∀ d j : Nat, ∀ acc : List S25, j + d = imms.length → acc.length + d ≤ 1000000 →
    Ev (fun k => whetstoneref18_one.l1 k op rg f (acc ++ (imms.drop j).map (fun b => (⟨op, rg, rd regs (i : Int), 0, b⟩ : S25))) ((i + 1 : Nat) : Int) ops regs imms len) r →
    Ev (fun k => whetstoneref18_one.l3 k op rg f acc (i : Int) (j : Int) ops regs imms len) r := by
  intro d
  induction d with
  | zero =>
    intro j acc h1 h2 h
    rw [List.drop_of_length_le (by omega), List.map_nil, List.append_nil] at h
    obtain ⟨k, hk⟩ := h
    refine ⟨k + 1, ?_⟩
    simp only [whetstoneref18_one.l3]
    rw [if_neg (by omega), wrap_up _ (by omega)]
    exact hk
  | succ d ih =>
    intro j acc h1 h2 h
    rw [int_drop imms j (by omega), List.map_cons] at h
    obtain ⟨k, hk⟩ := ih (j + 1) (acc ++ [⟨op, rg, rd regs (i : Int), 0, rd imms (j : Int)⟩]) (by omega) (by rw [List.length_append, List.length_singleton]; omega) (by rw [List.append_assoc]; exact h)
    refine ⟨k + 1, ?_⟩
    simp only [whetstoneref18_one.l3]
    rw [if_pos (by omega), if_pos (by omega), if_pos (by omega), if_pos (by omega), if_pos (by omega), wrap_up _ (by omega)]
    exact hk
/-- The third parts, of a form. -/
def third (f op rg a : Int) : List S25 := (Gm.row3 f op rg a (Gm.trdL f regs imms)).map toS
theorem third_len (f op rg a : Int) (hr : regs.length ≤ 99) (hi : imms.length ≤ 99) : (third regs imms f op rg a).length ≤ 99 := by
  unfold third Gm.row3 Gm.trdL
  rw [List.length_map, List.length_map]
  split <;> omega
theorem one_l1 (op rg f : Int) (hr : regs.length ≤ 99) (hi : imms.length ≤ 99) : ∀ d i : Nat, ∀ acc : List S25, i + d = regs.length → acc.length + d * 99 ≤ 100000 →
    Ev (fun k => whetstoneref18_one.l1 k op rg f acc (i : Int) ops regs imms len) (acc ++ (regs.drop i).flatMap (fun a => third regs imms f op rg a)) := by
  intro d
  induction d with
  | zero =>
    intro i acc h1 h2
    refine ⟨1, ?_⟩
    simp only [whetstoneref18_one.l1]
    rw [if_neg (by omega), List.drop_of_length_le (by omega), List.flatMap_nil, List.append_nil]
  | succ d ih =>
    intro i acc h1 h2
    have hl := third_len regs imms f op rg (rd regs (i : Int)) hr hi
    have hk := ih (i + 1) (acc ++ third regs imms f op rg (rd regs (i : Int))) (by omega) (by rw [List.length_append]; omega)
    rw [int_drop regs i (by omega), List.flatMap_cons]
    rw [List.append_assoc] at hk
    obtain ⟨R, hR⟩ : ∃ R, R = acc ++ (third regs imms f op rg (rd regs (i : Int)) ++ (regs.drop (i + 1)).flatMap (fun a => third regs imms f op rg a)) := ⟨_, rfl⟩
    rw [← hR] at hk ⊢
    by_cases hf : f = 82
    · obtain ⟨k, hk⟩ := one_l2 ops regs imms len op rg f i hr (by omega) R regs.length 0 acc (by omega) (by omega) (by
        rw [List.drop_zero]
        have e : third regs imms f op rg (rd regs (i : Int)) = regs.map (fun b => (⟨op, rg, rd regs (i : Int), b, 0⟩ : S25)) := by
          unfold third Gm.row3 Gm.trdL Gm.mkI
          rw [if_pos hf, List.map_map]
          congr 1
          funext b
          simp [toS, hf]
        rw [← e]
        exact hk)
      refine ⟨k + 1, ?_⟩
      simp only [whetstoneref18_one.l1]
      rw [if_pos (by omega), if_pos hf]
      exact hk
    · obtain ⟨k, hk⟩ := one_l3 ops regs imms len op rg f i hi (by omega) hr R imms.length 0 acc (by omega) (by omega) (by
        rw [List.drop_zero]
        have e : third regs imms f op rg (rd regs (i : Int)) = imms.map (fun b => (⟨op, rg, rd regs (i : Int), 0, b⟩ : S25)) := by
          unfold third Gm.row3 Gm.trdL Gm.mkI
          rw [if_neg hf, List.map_map]
          congr 1
          funext b
          simp [toS, hf]
        rw [← e]
        exact hk)
      refine ⟨k + 1, ?_⟩
      simp only [whetstoneref18_one.l1]
      rw [if_pos (by omega), if_neg hf]
      exact hk
/-- All of a kind and an Rd. -/
def oneL (op rg : Int) : List Gm.In := Gm.row2 (frm op) op rg (Gm.sndL (frm op) regs) (Gm.trdL (frm op) regs imms)
theorem one_eq (op rg : Int) (hr : regs.length ≤ 99) (hi : imms.length ≤ 99) : Ev (fun k => whetstoneref18_one.f k ops regs imms len op rg) ((oneL regs imms op rg).map toS) := by
  by_cases hf : frm op = 85
  · obtain ⟨k, hk⟩ := one_l0 ops regs imms len op rg hi imms.length 0 [] (by omega) (by simp; omega)
    refine ⟨k, ?_⟩
    show whetstoneref18_one.f k ops regs imms len op rg = _
    unfold whetstoneref18_one.f oneL Gm.row2 Gm.row3 Gm.sndL Gm.trdL Gm.mkI
    rw [rForm_eq, obs, obs, if_pos hf, if_pos hf, if_neg (by omega)]
    rw [List.drop_zero, List.nil_append] at hk
    refine hk.trans ?_
    rw [List.flatMap_cons, List.flatMap_nil, List.append_nil, List.map_map]
    congr 2
    funext b
    simp [toS, hf]
  · obtain ⟨k, hk⟩ := one_l1 ops regs imms len op rg (frm op) hr hi regs.length 0 [] (by omega) (by simp; omega)
    refine ⟨k, ?_⟩
    show whetstoneref18_one.f k ops regs imms len op rg = _
    unfold whetstoneref18_one.f
    rw [rForm_eq, obs, obs, if_neg hf]
    rw [List.drop_zero, List.nil_append] at hk
    refine hk.trans ?_
    unfold oneL Gm.row2 Gm.sndL third
    rw [if_neg hf, List.map_flatMap]
/-- May it be. -/
def rgS (s : S25) : Bool := rightv s.f0 s.f1 s.f2 s.f3 s.f4
theorem all_l2 (i m : Nat) (hm : m < 1000) (l : List S25) (r : List S25) (hl : l.length ≤ 100000) : ∀ d j : Nat, ∀ acc : List S25, j + d = l.length → acc.length + d ≤ 4096 →
    Ev (fun k => whetstoneref18_all.l1 k (acc ++ (l.drop j).filter rgS) (i : Int) ((m + 1 : Nat) : Int) ops regs imms len) r →
    Ev (fun k => whetstoneref18_all.l2 k acc (i : Int) (m : Int) l (j : Int) ops regs imms len) r := by
  intro d
  induction d with
  | zero =>
    intro j acc h1 h2 h
    rw [List.drop_of_length_le (by omega), List.filter_nil, List.append_nil] at h
    obtain ⟨k, hk⟩ := h
    refine ⟨k + 2, ?_⟩
    simp only [whetstoneref18_all.l2, whetstoneref18_all.j3]
    rw [if_neg (by omega), if_neg (by decide), wrap_up _ (by omega)]
    exact hk
  | succ d ih =>
    intro j acc h1 h2 h
    rw [drop_at l j (by omega), List.filter_cons] at h
    by_cases hg : rgS (rd_T25 l (j : Int)) = true
    · rw [if_pos hg] at h
      obtain ⟨k, h200, hk⟩ := ev_at (fun k => (whetstoneref18_all.mono_l k).2.2.1 _ _ _ _ _ _ _ _ _) (ih (j + 1) (acc ++ [rd_T25 l (j : Int)]) (by omega) (by rw [List.length_append, List.length_singleton]; omega) (by rw [List.append_assoc]; exact h)) 200
      refine ⟨k + 2, ?_⟩
      simp only [whetstoneref18_all.l2, whetstoneref18_all.j3]
      rw [if_pos (by omega), if_pos (by simp; omega), if_pos (by omega), if_pos (by omega), rRight_eq _ _ _ _ _ _ h200, obs, if_pos (show rightv (rd_T25 l (j : Int)).f0 (rd_T25 l (j : Int)).f1 (rd_T25 l (j : Int)).f2 (rd_T25 l (j : Int)).f3 (rd_T25 l (j : Int)).f4 = true from hg), if_pos (by omega), wrap_up _ (by omega)]
      exact hk
    · rw [if_neg hg] at h
      obtain ⟨k, h200, hk⟩ := ev_at (fun k => (whetstoneref18_all.mono_l k).2.2.1 _ _ _ _ _ _ _ _ _) (ih (j + 1) acc (by omega) (by omega) h) 200
      refine ⟨k + 2, ?_⟩
      simp only [whetstoneref18_all.l2, whetstoneref18_all.j3]
      rw [if_pos (by omega), if_pos (by simp; omega), if_pos (by omega), if_pos (by omega), rRight_eq _ _ _ _ _ _ h200, obs, if_neg (show ¬ rightv (rd_T25 l (j : Int)).f0 (rd_T25 l (j : Int)).f1 (rd_T25 l (j : Int)).f2 (rd_T25 l (j : Int)).f3 (rd_T25 l (j : Int)).f4 = true from hg), wrap_up _ (by omega)]
      exact hk
theorem filter_toS (l : List Gm.In) : (l.map toS).filter rgS = (l.filter rgt).map toS := by
  rw [List.filter_map]
  rfl
theorem oneL_len (op rg : Int) (hr : regs.length ≤ 6) (hi : imms.length ≤ 6) : (oneL regs imms op rg).length ≤ 36 := by
  unfold oneL Gm.row2
  have := Gm.flat_len (fun a => Gm.row3 (frm op) op rg a (Gm.trdL (frm op) regs imms)) 6 (Gm.sndL (frm op) regs) (fun a _ => by
    unfold Gm.row3 Gm.trdL
    rw [List.length_map]
    split <;> omega)
  have h2 : (Gm.sndL (frm op) regs).length ≤ 6 := by
    unfold Gm.sndL
    split
    · simp
    · exact hr
  omega
theorem all_l1 (i : Nat) (hi : i < ops.length) (ho : ops.length ≤ 6) (hr : regs.length ≤ 6) (hm : imms.length ≤ 6) (r : List S25) : ∀ d m : Nat, ∀ acc : List S25, m + d = regs.length → acc.length + d * 36 ≤ 4096 →
    Ev (fun k => whetstoneref18_all.l0 k (acc ++ (((regs.drop m).flatMap fun rg => oneL regs imms (rd ops (i : Int)) rg).filter rgt).map toS) ((i + 1 : Nat) : Int) ops regs imms len) r →
    Ev (fun k => whetstoneref18_all.l1 k acc (i : Int) (m : Int) ops regs imms len) r := by
  intro d
  induction d with
  | zero =>
    intro m acc h1 h2 h
    rw [List.drop_of_length_le (by omega), List.flatMap_nil, List.filter_nil, List.map_nil, List.append_nil] at h
    obtain ⟨k, hk⟩ := h
    refine ⟨k + 1, ?_⟩
    simp only [whetstoneref18_all.l1]
    rw [if_neg (by omega), wrap_up _ (by omega)]
    exact hk
  | succ d ih =>
    intro m acc h1 h2 h
    obtain ⟨L, hL⟩ : ∃ L, L = oneL regs imms (rd ops (i : Int)) (rd regs (m : Int)) := ⟨_, rfl⟩
    have hl := oneL_len regs imms (rd ops (i : Int)) (rd regs (m : Int)) hr hm
    have hone := one_eq ops regs imms len (rd ops (i : Int)) (rd regs (m : Int)) (by omega) (by omega)
    rw [int_drop regs m (by omega), List.flatMap_cons, List.filter_append, List.map_append] at h
    rw [← hL] at hl hone h
    have hf : ((L.map toS).filter rgS).length ≤ 36 := Nat.le_trans (List.length_filter_le _ _) (by rw [List.length_map]; exact hl)
    have h3 := ih (m + 1) (acc ++ (L.map toS).filter rgS) (by omega) (by rw [List.length_append]; omega) (by rw [List.append_assoc, filter_toS]; exact h)
    have h4 := all_l2 ops regs imms len i m (by omega) (L.map toS) r (by rw [List.length_map]; omega) (L.map toS).length 0 acc (by omega) (by rw [List.length_map]; omega) (by rw [List.drop_zero]; exact h3)
    obtain ⟨k1, hk1⟩ := hone
    obtain ⟨k, hk, hk2⟩ := ev_at (fun k => (whetstoneref18_all.mono_l k).2.2.1 _ _ _ _ _ _ _ _ _) h4 k1
    refine ⟨k + 1, ?_⟩
    simp only [whetstoneref18_all.l1]
    rw [if_pos (by omega), if_pos (by omega), if_pos (by omega), if_pos (by omega), up_mono (F := fun k => whetstoneref18_one.f k ops regs imms len (rd ops (i : Int)) (rd regs (m : Int))) (whetstoneref18_one.mono _ _ _ _ _ _) hk hk1, obs]
    exact hk2
theorem all_l0 (ho : ops.length ≤ 6) (hr : regs.length ≤ 6) (hm : imms.length ≤ 6) : ∀ d i : Nat, ∀ acc : List S25, i + d = ops.length → acc.length + d * 216 ≤ 2000 →
    Ev (fun k => whetstoneref18_all.l0 k acc (i : Int) ops regs imms len) (acc ++ (((ops.drop i).flatMap fun op => regs.flatMap fun rg => oneL regs imms op rg).filter rgt).map toS) := by
  intro d
  induction d with
  | zero =>
    intro i acc h1 h2
    refine ⟨1, ?_⟩
    simp only [whetstoneref18_all.l0]
    rw [if_neg (by omega), List.drop_of_length_le (by omega), List.flatMap_nil, List.filter_nil, List.map_nil, List.append_nil]
  | succ d ih =>
    intro i acc h1 h2
    have hl : (regs.flatMap fun rg => oneL regs imms (rd ops (i : Int)) rg).length ≤ 216 := by
      have := Gm.flat_len (fun rg => oneL regs imms (rd ops (i : Int)) rg) 36 regs (fun x _ => oneL_len regs imms _ x hr hm)
      omega
    have hf : (((regs.flatMap fun rg => oneL regs imms (rd ops (i : Int)) rg).filter rgt).map toS).length ≤ 216 := by
      rw [List.length_map]
      exact Nat.le_trans (List.length_filter_le _ _) hl
    have h3 := ih (i + 1) (acc ++ ((regs.flatMap fun rg => oneL regs imms (rd ops (i : Int)) rg).filter rgt).map toS) (by omega) (by rw [List.length_append]; omega)
    rw [List.append_assoc, ← List.map_append, ← List.filter_append] at h3
    rw [int_drop ops i (by omega), List.flatMap_cons]
    obtain ⟨R, hR⟩ : ∃ R, R = acc ++ (((regs.flatMap fun rg => oneL regs imms (rd ops (i : Int)) rg) ++ (ops.drop (i + 1)).flatMap fun op => regs.flatMap fun rg => oneL regs imms op rg).filter rgt).map toS := ⟨_, rfl⟩
    rw [← hR] at h3 ⊢
    obtain ⟨k, hk⟩ := all_l1 ops regs imms len i (by omega) ho hr hm R regs.length 0 acc (by omega) (by omega) (by
      rw [List.drop_zero]
      exact h3)
    refine ⟨k + 1, ?_⟩
    simp only [whetstoneref18_all.l0]
    rw [if_pos (by omega)]
    exact hk
theorem all_eq (ho : ops.length ≤ 6) (hr : regs.length ≤ 6) (hm : imms.length ≤ 6) : Ev (fun k => whetstoneref18_all.f k ops regs imms len) ((Gm.allL frm rgt ops regs imms).map toS) := by
  have h := all_l0 ops regs imms len ho hr hm ops.length 0 [] (by omega) (by simp; omega)
  rw [List.drop_zero, List.nil_append] at h
  exact h
theorem allL_len (ho : ops.length ≤ 6) (hr : regs.length ≤ 6) (hm : imms.length ≤ 6) : (Gm.allL frm rgt ops regs imms).length ≤ 1296 := by
  unfold Gm.allL
  refine Nat.le_trans (List.length_filter_le _ _) ?_
  have := Gm.flat_len (fun op => Gm.row1 (frm op) op regs (Gm.sndL (frm op) regs) (Gm.trdL (frm op) regs imms)) 216 ops (fun op _ => by
    have := Gm.flat_len (fun rg => oneL regs imms op rg) 36 regs (fun x _ => oneL_len regs imms _ x hr hm)
    unfold Gm.row1
    show (regs.flatMap fun rg => oneL regs imms op rg).length ≤ 216
    omega)
  omega
end
/-! ## the reference's Insts, Count -/
theorem rPlain_none (a : Int) (h : ¬ (18 ≤ a ∧ a ≤ 26)) : whetstoneref02_Plain.f 200 a = some (0, false) := by
  have e (j : Nat) (hj : j < 9) : rd ([18, 19, 20, 21, 22, 23, 24, 25, 26] : List Int) (j : Int) ≠ a := by
    have : ∀ j : Fin 9, 18 ≤ rd ([18, 19, 20, 21, 22, 23, 24, 25, 26] : List Int) (j.val : Int) ∧ rd ([18, 19, 20, 21, 22, 23, 24, 25, 26] : List Int) (j.val : Int) ≤ 26 := by decide
    have := this ⟨j, hj⟩
    simp only at this
    omega
  have go : ∀ d k j : Nat, j + d = 9 → d < k → whetstoneref02_Plain.l0 k a ([18, 19, 20, 21, 22, 23, 24, 25, 26] : List Int) ([27, 30, 31, 32, 35, 36, 29, 33, 34] : List Int) (j : Int) = some (0, false) := by
    intro d
    induction d with
    | zero =>
      intro k j hj hk
      obtain ⟨k, rfl⟩ : ∃ m, k = m + 1 := ⟨k - 1, by omega⟩
      obtain rfl : j = 9 := by omega
      simp only [whetstoneref02_Plain.l0]
      rfl
    | succ d ih =>
      intro k j hj hk
      obtain ⟨k, rfl⟩ : ∃ m, k = m + 1 := ⟨k - 1, by omega⟩
      simp only [whetstoneref02_Plain.l0]
      rw [if_pos (by simp; omega), if_pos (by omega), if_neg (e j (by omega)), show wrap64 ((j : Int) + 1) = ((j + 1 : Nat) : Int) by rw [wrap64_lit _ (by omega) (by omega)]; omega]
      exact ih k (j + 1) (by omega) (by omega)
  exact go 9 200 0 (by omega) (by omega)
theorem Plain_none (a : Int) (h : ¬ (18 ≤ a ∧ a ≤ 26)) : inst_Plain.f a = some (0, false) := by
  unfold inst_Plain.f
  rw [if_neg (by omega), if_neg (by omega), if_neg (by omega), if_neg (by omega), if_neg (by omega), if_neg (by omega), if_neg (by omega), if_neg (by omega), if_neg (by omega)]
theorem rPlain_in : ∀ n : Fin 9, (whetstoneref02_Plain.f 200 (18 + (n.val : Int))).map (·.2) = some true := by decide +kernel
theorem rPlain_eq (a : Int) (k : Nat) (hk : 200 ≤ k) : ∃ p, whetstoneref02_Plain.f k a = some (p, Gm.isPl a) := by
  have h : ∃ p, whetstoneref02_Plain.f 200 a = some (p, Gm.isPl a) := by
    unfold Gm.isPl
    by_cases h : 18 ≤ a ∧ a ≤ 26
    · rw [decide_eq_true h]
      have := rPlain_in ⟨(a - 18).toNat, by omega⟩
      rw [show (18 : Int) + ((a - 18).toNat : Int) = a by omega] at this
      obtain ⟨⟨p, b⟩, e, hb⟩ := Option.map_eq_some_iff.1 this
      exact ⟨p, by rw [e]; simp at hb; rw [hb]⟩
    · rw [decide_eq_false h]
      exact ⟨0, rPlain_none a h⟩
  obtain ⟨p, hp⟩ := h
  exact ⟨p, up_mono (F := fun k => whetstoneref02_Plain.f k a) (whetstoneref02_Plain.mono a) hk hp⟩
theorem Plain_some (a : Int) : ∃ p, inst_Plain.f a = some (p, Gm.isPl a) := by
  unfold Gm.isPl
  by_cases h : 18 ≤ a ∧ a ≤ 26
  · rw [decide_eq_true h]
    unfold inst_Plain.f
    (repeat' split) <;> first | exact ⟨_, rfl⟩ | omega
  · rw [decide_eq_false h]
    exact ⟨0, Plain_none a h⟩
theorem R12_eq (x : Gm.In) (k : Nat) (hk : 200 ≤ k) : whetstoneref12_Plain.f k x.op x.rd x.a x.b x.m = some (Gm.lftv frm rgt x) := by
  obtain ⟨p, hp⟩ := rPlain_eq x.op k hk
  unfold whetstoneref12_Plain.f Gm.lftv
  rw [hp, obs, rRight_eq _ _ _ _ _ _ hk, obs]
  show (if rgt x = true then _ else _) = _
  cases hr : rgt x
  · rfl
  · obtain ⟨h1, _⟩ := right_op (show rightv x.op x.rd x.a x.b x.m = true from hr)
    rw [if_pos rfl]
    cases Gm.isPl x.op
    · rw [if_neg Bool.false_ne_true]
      by_cases h2 : x.op ≤ 1
      · rw [if_pos h2]
        rcases (by omega : x.op = 0 ∨ x.op = 1) with h | h <;> simp [h]
      · rw [if_neg h2, rForm_eq, obs]
        have h3 : (x.op == 0) = false := beq_eq_false_iff_ne.mpr (by omega)
        have h4 : (x.op == 1) = false := beq_eq_false_iff_ne.mpr (by omega)
        rw [h3, h4]
        rfl
    · rw [if_pos rfl]
      rfl
theorem lift_eq (x : Gm.In) (k : Nat) (hk : 4 ≤ k) : lift_Plain.f k x.op x.rd x.a x.b x.m = some (Gm.lftv frm rgt x) := by
  obtain ⟨p, hp⟩ := Plain_some x.op
  unfold lift_Plain.f Gm.lftv
  rw [Right_eq _ _ _ _ _ _ hk, obs, hp]
  show (if rgt x = true then _ else _) = _
  cases hr : rgt x
  · rfl
  · rw [if_pos rfl, obs]
    cases Gm.isPl x.op
    · rw [if_neg Bool.false_ne_true]
      by_cases h0 : x.op = 0
      · rw [if_pos h0]; simp [h0]
      by_cases h1 : x.op = 1
      · rw [if_neg h0, if_pos h1]; simp [h1]
      rw [if_neg h0, if_neg h1, Form_eq, obs, show (x.op == 0) = false from beq_eq_false_iff_ne.mpr h0, show (x.op == 1) = false from beq_eq_false_iff_ne.mpr h1]
      rfl
    · rw [if_pos rfl]
      rfl
section
variable (ops regs imms : List Int) (len : Int)
theorem rInsts_l0 (R : List S25 × Int) (ho : ops.length ≤ 99) (h : Ev (fun k => whetstoneref18_Insts.l1 k 0 ops regs imms len) R) : ∀ d i : Nat, i + d = ops.length →
    Ev (fun k => whetstoneref18_Insts.l0 k (i : Int) ops regs imms len) (if (ops.drop i).any (fun op => !knd op) = true then ([], 180) else R) := by
  intro d
  induction d with
  | zero =>
    intro i h1
    obtain ⟨k, hk⟩ := h
    refine ⟨k + 1, ?_⟩
    simp only [whetstoneref18_Insts.l0]
    rw [if_neg (by omega), List.drop_of_length_le (by omega), List.any_nil, if_neg (by decide)]
    exact hk
  | succ d ih =>
    intro i h1
    obtain ⟨k, h200, hk⟩ := ev_at (fun k => (whetstoneref18_Insts.mono_l k).1 _ _ _ _ _) (ih (i + 1) (by omega)) 200
    refine ⟨k + 1, ?_⟩
    simp only [whetstoneref18_Insts.l0]
    rw [if_pos (by omega), if_pos (by omega), int_drop ops i (by omega), List.any_cons]
    have e : knd (rd ops (i : Int)) = (rd ops (i : Int) != 1 && Gm.lftv frm rgt ⟨rd ops (i : Int), 0, 0, 0, 0⟩) := rfl
    by_cases h2 : rd ops (i : Int) = 1
    · rw [if_pos h2, e, h2]
      rfl
    · rw [if_neg h2, R12_eq ⟨rd ops (i : Int), 0, 0, 0, 0⟩ k h200, obs, e, show (rd ops (i : Int) != 1) = true from bne_iff_ne.mpr h2, Bool.true_and]
      cases Gm.lftv frm rgt ⟨rd ops (i : Int), 0, 0, 0, 0⟩
      · rfl
      · rw [if_pos rfl, wrap_up _ (by omega)]
        simpa using hk
theorem rInsts_l1 (R : List S25 × Int) (hr : regs.length ≤ 99) (h : Ev (fun k => whetstoneref18_Insts.j2 k (decide (len < 0 ∨ 3 < len)) ops regs imms len) R) : ∀ d i : Nat, i + d = regs.length →
    Ev (fun k => whetstoneref18_Insts.l1 k (i : Int) ops regs imms len) (if (regs.drop i).any Gm.far = true then ([], 180) else R) := by
  intro d
  induction d with
  | zero =>
    intro i h1
    obtain ⟨k, hk⟩ := h
    refine ⟨k + 1, ?_⟩
    simp only [whetstoneref18_Insts.l1]
    rw [if_neg (by omega), List.drop_of_length_le (by omega), List.any_nil, if_neg (c := false = true) Bool.false_ne_true]
    by_cases h0 : len < 0
    · rw [if_pos h0]
      rw [decide_eq_true (Or.inl h0)] at hk
      exact hk
    · rw [if_neg h0]
      rw [show decide (len < 0 ∨ 3 < len) = decide (len > 3) by rw [decide_eq_decide]; omega] at hk
      exact hk
  | succ d ih =>
    intro i h1
    obtain ⟨k, hk⟩ := ih (i + 1) (by omega)
    refine ⟨k + 1, ?_⟩
    simp only [whetstoneref18_Insts.l1]
    rw [if_pos (by omega), if_pos (by omega), int_drop regs i (by omega), List.any_cons]
    by_cases h2 : rd regs (i : Int) < 0
    · rw [if_pos h2, show Gm.far (rd regs (i : Int)) = true from decide_eq_true (Or.inl h2)]
      rfl
    · by_cases h3 : rd regs (i : Int) > 31
      · rw [if_neg h2, if_pos h3, show Gm.far (rd regs (i : Int)) = true from decide_eq_true (by omega)]
        rfl
      · rw [if_neg h2, if_neg h3, show Gm.far (rd regs (i : Int)) = false from decide_eq_false (by omega), wrap_up _ (by omega)]
        simpa using hk
theorem rInsts_j2 (ho : ops.length ≤ 6) (hr : regs.length ≤ 6) (hm : imms.length ≤ 6) (b : Bool) :
    Ev (fun k => whetstoneref18_Insts.j2 k b ops regs imms len) (if b = true then ([], 180) else ((Gm.allL frm rgt ops regs imms).map toS, 0)) := by
  obtain ⟨k, hk⟩ := all_eq ops regs imms len ho hr hm
  have hl := allL_len ops regs imms ho hr hm
  refine ⟨k + 1, ?_⟩
  simp only [whetstoneref18_Insts.j2]
  cases b
  · rw [if_neg (by decide), if_neg (by decide), show whetstoneref18_all.f k ops regs imms len = _ from hk, obs, if_neg (by rw [List.length_map]; omega)]
  · rw [if_pos rfl, if_pos rfl]
theorem ins_small (ho : ops.length ≤ 6) (hr : regs.length ≤ 6) (hm : imms.length ≤ 6) : chk ops regs imms len = (if ops.any (fun op => !knd op) = true ∨ regs.any Gm.far = true ∨ len < 0 ∨ 3 < len then 180 else 0) := by
  have hl := allL_len ops regs imms ho hr hm
  unfold chk Gm.chkv
  rw [if_neg (show ¬ 4096 < (Gm.allL frm rgt ops regs imms).length by omega)]
theorem ins_len (ho : ops.length ≤ 6) (hr : regs.length ≤ 6) (hm : imms.length ≤ 6) : (ins ops regs imms len).length ≤ 1296 := by
  have hl := allL_len ops regs imms ho hr hm
  unfold ins Gm.insv
  split
  · exact hl
  · simp
theorem rInsts_eq (ho : ops.length ≤ 6) (hr : regs.length ≤ 6) (hm : imms.length ≤ 6) : Ev (fun k => whetstoneref18_Insts.f k ops regs imms len) ((ins ops regs imms len).map toS, chk ops regs imms len) := by
  have h := rInsts_l0 ops regs imms len _ (by omega) (rInsts_l1 ops regs imms len _ (by omega) (rInsts_j2 ops regs imms len ho hr hm _) regs.length 0 (by omega)) ops.length 0 (by omega)
  rw [List.drop_zero, List.drop_zero] at h
  have e : ((ins ops regs imms len).map toS, chk ops regs imms len) = (if ops.any (fun op => !knd op) = true then ([], 180) else if regs.any Gm.far = true then ([], 180) else if decide (len < 0 ∨ 3 < len) = true then ([], 180) else ((Gm.allL frm rgt ops regs imms).map toS, 0)) := by
    have hc := ins_small ops regs imms len ho hr hm
    have hi : ins ops regs imms len = if chk ops regs imms len = 0 then Gm.allL frm rgt ops regs imms else [] := rfl
    rw [hi, hc]
    by_cases h1 : ops.any (fun op => !knd op) = true
    · rw [if_pos h1, if_pos (Or.inl h1)]; rfl
    by_cases h2 : regs.any Gm.far = true
    · rw [if_neg h1, if_pos h2, if_pos (Or.inr (Or.inl h2))]; rfl
    by_cases h3 : len < 0 ∨ 3 < len
    · rw [if_neg h1, if_neg h2, if_pos (decide_eq_true h3), if_pos (Or.inr (Or.inr h3))]; rfl
    · rw [if_neg h1, if_neg h2, if_neg (show ¬ decide (len < 0 ∨ 3 < len) = true from fun h => h3 (of_decide_eq_true h)), if_neg (show ¬ (ops.any (fun op => !knd op) = true ∨ regs.any Gm.far = true ∨ len < 0 ∨ 3 < len) from fun h => h.elim h1 fun h => h.elim h2 h3)]; rfl
  rw [e]
  exact h
/-- How many runs of fewer than so many instructions. -/
def cs (N : Nat) : Nat → Nat
  | 0 => 0
  | j + 1 => cs N j + N ^ j
theorem pow_le3 (N j : Nat) (hN : N ≤ 1296) (hj : j ≤ 4) : N ^ j ≤ 2821109907456 := by
  have h1 : N ^ j ≤ 1296 ^ j := Nat.pow_le_pow_left hN j
  have h2 : 1296 ^ j ≤ 1296 ^ 4 := Nat.pow_le_pow_right (by omega) hj
  have h3 : 1296 ^ 4 = 2821109907456 := by decide
  omega
theorem cs_le (N : Nat) (hN : N ≤ 1296) : ∀ j : Nat, j ≤ 5 → cs N j ≤ j * 2821109907456 := by
  intro j
  induction j with
  | zero => intro _; simp [cs]
  | succ j ih =>
    intro h
    have := pow_le3 N j hN (by omega)
    have := ih (by omega)
    unfold cs
    omega
theorem chk_len (h : chk ops regs imms len = 0) : 0 ≤ len ∧ len ≤ 3 := by
  unfold chk Gm.chkv at h
  split at h
  · cases h
  · rename_i h1
    constructor
    · exact Int.not_lt.mp fun h2 => h1 (Or.inr (Or.inr (Or.inl h2)))
    · exact Int.not_lt.mp fun h2 => h1 (Or.inr (Or.inr (Or.inr h2)))
theorem rCount_l0 (l : List S25) (hN : l.length ≤ 1296) (L : Nat) (hL : L ≤ 3) : ∀ d i : Nat, i + d = L →
    Ev (fun k => whetstoneref18_Count.l0 k l ((cs l.length (i + 1) : Nat) : Int) ((l.length ^ i : Nat) : Int) (i : Int) ops regs imms (L : Int)) (((cs l.length (L + 1) : Nat) : Int), 0) := by
  intro d
  induction d with
  | zero =>
    intro i h1
    refine ⟨1, ?_⟩
    obtain rfl : i = L := by omega
    simp only [whetstoneref18_Count.l0]
    rw [if_neg (by omega)]
  | succ d ih =>
    intro i h1
    obtain ⟨k, hk⟩ := ih (i + 1) (by omega)
    refine ⟨k + 1, ?_⟩
    simp only [whetstoneref18_Count.l0]
    have p1 := pow_le3 l.length (i + 1) hN (by omega)
    have p2 := cs_le l.length hN (i + 1) (by omega)
    have e1 : ((l.length ^ i : Nat) : Int) * (l.length : Int) = ((l.length ^ (i + 1) : Nat) : Int) := by rw [Nat.pow_succ, Int.natCast_mul]
    have e2 : cs l.length (i + 1 + 1) = cs l.length (i + 1) + l.length ^ (i + 1) := rfl
    rw [if_pos (by omega), e1, wrap64_lit ((l.length ^ (i + 1) : Nat) : Int) (by omega) (by omega), wrap_up _ (by omega), ← Int.natCast_add, ← e2, wrap64_lit _ (by omega) (by omega)]
    exact hk
theorem rCount_eq (ho : ops.length ≤ 6) (hr : regs.length ≤ 6) (hm : imms.length ≤ 6) : Ev (fun k => whetstoneref18_Count.f k ops regs imms len) (if chk ops regs imms len = 0 then (((cs (ins ops regs imms len).length (len.toNat + 1) : Nat) : Int), 0) else (0, chk ops regs imms len)) := by
  have h := rInsts_eq ops regs imms len ho hr hm
  have hl := ins_len ops regs imms len ho hr hm
  by_cases hc : chk ops regs imms len = 0
  · rw [if_pos hc]
    obtain ⟨h0, h3⟩ := chk_len ops regs imms len hc
    obtain ⟨L, rfl⟩ := Int.eq_ofNat_of_zero_le h0
    have h2 := rCount_l0 ops regs imms ((ins ops regs imms L).map toS) (by rw [List.length_map]; exact hl) L (by omega) L 0 (by omega)
    obtain ⟨k, hk, hk2⟩ := ev_at (fun k => whetstoneref18_Count.mono_l k _ _ _ _ _ _ _ _) h2 h.choose
    refine ⟨k, ?_⟩
    have hi := up_mono (F := fun k => whetstoneref18_Insts.f k ops regs imms L) (whetstoneref18_Insts.mono ops regs imms L) hk h.choose_spec
    show whetstoneref18_Count.f k ops regs imms L = _
    unfold whetstoneref18_Count.f
    rw [hi, obs, if_pos hc]
    rw [List.length_map] at hk2
    exact hk2
  · rw [if_neg hc]
    obtain ⟨k, hk⟩ := h
    refine ⟨k, ?_⟩
    show whetstoneref18_Count.f k ops regs imms len = _
    unfold whetstoneref18_Count.f
    rw [show whetstoneref18_Insts.f k ops regs imms len = _ from hk, obs, if_neg hc]
theorem pows_get (N m j : Nat) (h : j < m) : rd (Gm.pows N m) (j : Int) = ((N ^ j : Nat) : Int) := by
  unfold rd Gm.pows
  rw [Int.toNat_natCast, List.getD_eq_getElem?_getD, List.getElem?_map, List.getElem?_range h]
  rfl
theorem pows_len (N m : Nat) : (Gm.pows N m).length = m := by simp [Gm.pows]
theorem pows_succ (N m : Nat) : Gm.pows N (m + 1) = Gm.pows N m ++ [((N ^ m : Nat) : Int)] := by simp [Gm.pows, List.range_succ]
theorem runs_l0 (N : Nat) (hN : N ≤ 1296) (L : Nat) (hL : L ≤ 3) : ∀ d i : Nat, i + d = L → Ev (fun k => grammar_runs.l0 k (N : Int) (Gm.pows N (i + 1)) (L : Int) (i : Int)) (Gm.pows N (L + 1)) := by
  intro d
  induction d with
  | zero =>
    intro i h1
    refine ⟨1, ?_⟩
    obtain rfl : i = L := by omega
    simp only [grammar_runs.l0]
    rw [if_neg (by omega)]
  | succ d ih =>
    intro i h1
    obtain ⟨k, hk⟩ := ih (i + 1) (by omega)
    refine ⟨k + 1, ?_⟩
    simp only [grammar_runs.l0]
    have p1 := pow_le3 N (i + 1) hN (by omega)
    have e1 : (N : Int) * ((N ^ i : Nat) : Int) = ((N ^ (i + 1) : Nat) : Int) := by rw [Nat.pow_succ, Nat.mul_comm, Int.natCast_mul]
    rw [if_pos (by omega), if_pos (by omega), if_pos (by rw [pows_len]; omega), if_pos (by rw [pows_len]; omega), pows_get N (i + 1) i (by omega), e1, wrap64_lit _ (by omega) (by omega), wrap_up _ (by omega), ← pows_succ]
    exact hk
theorem Count_l0 (N : Nat) (hN : N ≤ 1296) (L : Nat) (hL : L ≤ 4) : ∀ d i : Nat, i + d = L → Ev (fun k => grammar_Count.l0 k ((cs N i : Nat) : Int) (Gm.pows N L) (L : Int) (i : Int)) (((cs N L : Nat) : Int), 0) := by
  intro d
  induction d with
  | zero =>
    intro i h1
    refine ⟨1, ?_⟩
    obtain rfl : i = L := by omega
    simp only [grammar_Count.l0]
    rw [if_neg (by omega)]
  | succ d ih =>
    intro i h1
    obtain ⟨k, hk⟩ := ih (i + 1) (by omega)
    refine ⟨k + 1, ?_⟩
    simp only [grammar_Count.l0]
    have p1 := pow_le3 N i hN (by omega)
    have p2 := cs_le N hN i (by omega)
    have e2 : cs N (i + 1) = cs N i + N ^ i := rfl
    rw [if_pos (by omega), if_pos (by omega), if_pos (by rw [pows_len]; omega), pows_get N L i (by omega), ← Int.natCast_add, ← e2, wrap64_lit _ (by omega) (by omega), wrap_up _ (by omega)]
    exact hk
theorem Count_eq (ho : ops.length ≤ 6) (hr : regs.length ≤ 6) (hm : imms.length ≤ 6) : Ev (fun k => grammar_Count.f k ops regs imms len) (if chk ops regs imms len = 0 then (((cs (ins ops regs imms len).length (len.toNat + 1) : Nat) : Int), 0) else (0, chk ops regs imms len)) := by
  have hl := ins_len ops regs imms len ho hr hm
  have hi : grammar_Insts.f ops regs imms len = some ((ins ops regs imms len).map toS, chk ops regs imms len) := by
    unfold grammar_Insts.f
    rw [if_pos (show szL ops regs imms from ⟨by omega, by omega, by omega⟩)]
  by_cases hc : chk ops regs imms len = 0
  · rw [if_pos hc]
    obtain ⟨h0, h3⟩ := chk_len ops regs imms len hc
    obtain ⟨L, rfl⟩ := Int.eq_ofNat_of_zero_le h0
    have h1 := runs_l0 (ins ops regs imms L).length hl L (by omega) L 0 (by omega)
    have h2 := Count_l0 (ins ops regs imms L).length hl (L + 1) (by omega) (L + 1) 0 (by omega)
    obtain ⟨k, hk, hk2⟩ := ev_at (fun k => grammar_Count.mono_l k _ _ _ _) h2 h1.choose
    refine ⟨k, ?_⟩
    have hr1 := up_mono (F := fun k => grammar_runs.l0 k ((ins ops regs imms L).length : Int) (Gm.pows (ins ops regs imms L).length (0 + 1)) (L : Int) ((0 : Nat) : Int)) (fun k => grammar_runs.mono_l k _ _ _ _) hk h1.choose_spec
    show grammar_Count.f k ops regs imms L = _
    unfold grammar_Count.f grammar_runs.f
    rw [hi, obs, if_pos hc]
    rw [List.length_map]
    have e1 : ([1] : List Int) = Gm.pows (ins ops regs imms L).length (0 + 1) := by simp [Gm.pows]
    rw [e1]
    refine (congrArg (fun o => Option.bind o _) hr1).trans ?_
    rw [obs, pows_len]
    exact hk2
  · rw [if_neg hc]
    refine ⟨0, ?_⟩
    show grammar_Count.f 0 ops regs imms len = _
    unfold grammar_Count.f
    rw [hi, obs, if_neg hc]
end
/-! ## the runs -/
theorem findR_spec (N : Nat) : ∀ f i m : Nat, (m + cs N i < cs N (i + f) → ∃ j r, Gm.findR N f i m = some (j, r) ∧ i ≤ j ∧ j < i + f ∧ r < N ^ j ∧ r + cs N j = m + cs N i) ∧ (cs N (i + f) ≤ m + cs N i → Gm.findR N f i m = none) := by
  intro f
  induction f with
  | zero => intro i m; exact ⟨fun h => by simp at h; omega, fun _ => rfl⟩
  | succ f ih =>
    intro i m
    have e1 : cs N (i + 1) = cs N i + N ^ i := rfl
    have e2 : i + 1 + f = i + (f + 1) := by omega
    have h1 := ih (i + 1) (m - N ^ i)
    rw [e2] at h1
    by_cases h : m < N ^ i
    · refine ⟨fun _ => ⟨i, m, by simp only [Gm.findR]; rw [if_pos h], Nat.le_refl _, by omega, h, rfl⟩, fun h2 => ?_⟩
      exfalso
      have mono : ∀ f, cs N (i + 1) ≤ cs N (i + 1 + f) := by
        intro f
        induction f with
        | zero => exact Nat.le_refl _
        | succ f ih => exact Nat.le_trans ih (by show _ ≤ cs N (i + 1 + f) + N ^ (i + 1 + f); omega)
      have := mono f
      rw [e2] at this
      omega
    · have e3 : Gm.findR N (f + 1) i m = Gm.findR N f (i + 1) (m - N ^ i) := by simp only [Gm.findR]; rw [if_neg h]
      rw [e3]
      refine ⟨fun h2 => ?_, fun h2 => h1.2 (by omega)⟩
      obtain ⟨j, r, a1, a2, a3, a4, a5⟩ := h1.1 (by omega)
      exact ⟨j, r, a1, by omega, a3, a4, by omega⟩
/-- A run: its parts, by the digits. -/
def runL (l : List Gm.In) (i m : Nat) : List Gm.In := (List.range i).map fun p => l.getD (m / l.length ^ (i - 1 - p) % l.length) default
theorem runL_len (l : List Gm.In) (i m : Nat) : (runL l i m).length = i := by simp [runL]
theorem runRow_part (l : List Gm.In) (i m : Nat) : ∀ t : Nat, t ≤ i → ((List.range t).map fun j => i - 1 - j).foldl (Gm.runStep l) (List.replicate i default, m) = ((List.range i).map fun p => if p < i - t then default else l.getD (m / l.length ^ (i - 1 - p) % l.length) default, m / l.length ^ t) := by
  intro t
  induction t with
  | zero =>
    intro _
    simp only [List.range_zero, List.map_nil, List.foldl_nil, Nat.pow_zero, Nat.div_one]
    congr 1
    apply List.ext_getElem
    · simp
    · intro p h1 h2
      simp at h1 h2 ⊢
      intro h
      omega
  | succ t ih =>
    intro h
    rw [List.range_succ, List.map_append, List.foldl_append, ih (by omega)]
    simp only [List.map_cons, List.map_nil, List.foldl_cons, List.foldl_nil, Gm.runStep]
    congr 1
    · apply List.ext_getElem
      · simp
      · intro p h1 h2
        simp only [List.length_set, List.length_map, List.length_range] at h1
        rw [List.getElem_set]
        simp only [List.getElem_map, List.getElem_range]
        by_cases hp : i - 1 - t = p
        · rw [if_pos hp, if_neg (by omega), show i - 1 - p = t by omega]
        · rw [if_neg hp]
          by_cases hq : p < i - t
          · rw [if_pos hq, if_pos (by omega)]
          · rw [if_neg hq, if_neg (by omega)]
    · rw [Nat.div_div_eq_div_mul, Nat.pow_succ]
theorem runRow_eq (l : List Gm.In) (i m : Nat) : (Gm.runRow l i m (Gm.downTo i 0)).1 = runL l i m := by
  unfold Gm.runRow Gm.downTo
  rw [Nat.sub_zero, runRow_part l i m i (Nat.le_refl _)]
  unfold runL
  apply List.ext_getElem
  · simp
  · intro p h1 h2
    simp only [List.getElem_map, List.getElem_range]
    rw [if_neg (by omega)]
theorem runR_none (ops regs imms : List Int) (len n : Int) (h : chk ops regs imms len ≠ 0) : runR ops regs imms len n = ([], chk ops regs imms len) := by
  unfold runR Gm.runv
  rw [if_pos h]
theorem runR_out (ops regs imms : List Int) (len n : Int) (h : chk ops regs imms len = 0) (hn : n < 0 ∨ ((cs (ins ops regs imms len).length (len.toNat + 1) : Nat) : Int) ≤ n) : runR ops regs imms len n = ([], 1) := by
  unfold runR Gm.runv
  rw [if_neg (by rw [h]; decide)]
  by_cases h0 : n < 0
  · rw [if_pos h0]
  · rw [if_neg h0]
    have := (findR_spec (ins ops regs imms len).length (len.toNat + 1) 0 n.toNat).2 (by have e0 : cs (ins ops regs imms len).length 0 = 0 := rfl; rw [Nat.zero_add, e0]; omega)
    rw [this]
theorem runR_in (ops regs imms : List Int) (len n : Int) (h : chk ops regs imms len = 0) (h0 : 0 ≤ n) (hn : n < ((cs (ins ops regs imms len).length (len.toNat + 1) : Nat) : Int)) :
    ∃ j r, Gm.findR (ins ops regs imms len).length (len.toNat + 1) 0 n.toNat = some (j, r) ∧ j ≤ len.toNat ∧ r < (ins ops regs imms len).length ^ j ∧ r + cs (ins ops regs imms len).length j = n.toNat ∧ runR ops regs imms len n = (runL (ins ops regs imms len) j r, 0) := by
  obtain ⟨j, r, e, h1, h2, h3, h4⟩ := (findR_spec (ins ops regs imms len).length (len.toNat + 1) 0 n.toNat).1 (by have e0 : cs (ins ops regs imms len).length 0 = 0 := rfl; rw [Nat.zero_add, e0]; omega)
  refine ⟨j, r, e, by omega, h3, by simpa [cs] using h4, ?_⟩
  unfold runR Gm.runv
  rw [if_neg (by rw [h]; decide), if_neg (by omega), e]
  simp only [runRow_eq]
section
variable (ops regs imms : List Int) (len : Int)
theorem toS_at (l : List Gm.In) (j : Nat) (h : j < l.length) : rd_T25 (l.map toS) (j : Int) = toS (l.getD j default) := by
  unfold rd_T25
  rw [Int.toNat_natCast, List.getD_eq_getElem?_getD, List.getElem?_map, List.getD_eq_getElem?_getD, List.getElem?_eq_getElem h]
  rfl
theorem rRun_l1 (l : List Gm.In) (hN : l.length ≤ 1296) (j r : Nat) (hj : j ≤ 3) (hr : r < l.length ^ j) : ∀ d t : Nat, t + d = j →
    Ev (fun k => whetstoneref18_Run.l1 k ((r % l.length ^ (j - t) : Nat) : Int) (l.map toS) (j : Int) ((l.length ^ (j - t) : Nat) : Int) (((List.range t).map fun p => l.getD (r / l.length ^ (j - 1 - p) % l.length) default).map toS) (t : Int)) ((runL l j r).map toS, 0) := by
  intro d
  induction d with
  | zero =>
    intro t h1
    obtain rfl : t = j := by omega
    refine ⟨1, ?_⟩
    simp only [whetstoneref18_Run.l1]
    rw [if_neg (by omega)]
    rfl
  | succ d ih =>
    intro t h1
    obtain ⟨k, hk⟩ := ih (t + 1) (by omega)
    refine ⟨k + 1, ?_⟩
    have hpos : 0 < l.length := by
      rcases Nat.eq_zero_or_pos l.length with h | h
      · rw [h, Nat.zero_pow (by omega)] at hr
        omega
      · exact h
    obtain ⟨q, hq⟩ : ∃ q, q = j - (t + 1) := ⟨_, rfl⟩
    have ejt : j - t = q + 1 := by omega
    have ejq : j - 1 - t = q := by omega
    rw [← hq] at hk
    have p1 := pow_le3 l.length q hN (by omega)
    have p2 := pow_le3 l.length (q + 1) hN (by omega)
    have pq : 0 < l.length ^ q := Nat.pow_pos hpos
    have e1 : Int.tdiv ((l.length ^ (q + 1) : Nat) : Int) (l.length : Int) = ((l.length ^ q : Nat) : Int) := by
      rw [← Int.ofNat_tdiv, Nat.pow_succ, Nat.mul_div_cancel _ hpos]
    have hm : r % l.length ^ (q + 1) < l.length ^ (q + 1) := Nat.mod_lt _ (Nat.pow_pos hpos)
    have e2 : r % l.length ^ (q + 1) / l.length ^ q = r / l.length ^ q % l.length := by
      rw [Nat.pow_succ, Nat.mod_mul_right_div_self]
    have e3 : Int.tdiv ((r % l.length ^ (q + 1) : Nat) : Int) ((l.length ^ q : Nat) : Int) = ((r / l.length ^ q % l.length : Nat) : Int) := by
      rw [← Int.ofNat_tdiv, e2]
    have e4 : Int.tmod ((r % l.length ^ (q + 1) : Nat) : Int) ((l.length ^ q : Nat) : Int) = ((r % l.length ^ q : Nat) : Int) := by
      rw [← Int.ofNat_tmod, Nat.pow_succ, Nat.mod_mul_right_mod]
    have hd : r / l.length ^ q % l.length < l.length := Nat.mod_lt _ hpos
    simp only [whetstoneref18_Run.l1]
    rw [ejt]
    simp only [List.length_map, List.length_range]
    rw [if_pos (by omega), if_neg (by omega), e1, wrap64_lit _ (by omega) (by omega), if_neg (by omega), e3, e4, wrap64_lit _ (by omega) (by omega), if_pos (by omega), if_pos (by omega), if_pos (by omega), toS_at l _ hd, wrap_up _ (by omega)]
    rw [List.range_succ, List.map_append, List.map_append, List.map_cons, List.map_nil, List.map_cons, List.map_nil, ejq] at hk
    exact hk
theorem rRun_l0 (l : List Gm.In) (hN : l.length ≤ 1296) (j r : Nat) (hj : j ≤ 3) (hr : r < l.length ^ j) : ∀ d f i m : Nat, i + d = j → Gm.findR l.length f i m = some (j, r) → m ≤ 1000000000000000 →
    Ev (fun k => whetstoneref18_Run.l0 k (m : Int) (l.map toS) (i : Int) ((l.length ^ i : Nat) : Int)) ((runL l j r).map toS, 0) := by
  intro d
  induction d with
  | zero =>
    intro f i m h1 h2 hm
    obtain rfl : i = j := by omega
    match f, h2 with
    | f + 1, h2 =>
      simp only [Gm.findR] at h2
      split at h2
      · rename_i hlt
        simp only [Option.some.injEq, Prod.mk.injEq] at h2
        obtain ⟨_, rfl⟩ := h2
        obtain ⟨k, hk⟩ := rRun_l1 l hN i m hj hr i 0 (by omega)
        rw [Nat.sub_zero, Nat.mod_eq_of_lt hr] at hk
        refine ⟨k + 1, ?_⟩
        simp only [whetstoneref18_Run.l0]
        rw [if_neg (by omega)]
        exact hk
      · exfalso
        have key : ∀ f i' m', i < i' → Gm.findR l.length f i' m' ≠ some (i, r) := by
          intro f
          induction f with
          | zero => intro i' m' h; simp [Gm.findR]
          | succ f ih =>
            intro i' m' h
            simp only [Gm.findR]
            split
            · intro he
              simp only [Option.some.injEq, Prod.mk.injEq] at he
              omega
            · exact ih (i' + 1) _ (by omega)
        exact key f (i + 1) _ (by omega) h2
  | succ d ih =>
    intro f i m h1 h2 hm
    match f, h2 with
    | f + 1, h2 =>
      simp only [Gm.findR] at h2
      split at h2
      · simp only [Option.some.injEq, Prod.mk.injEq] at h2
        omega
      · rename_i hlt
        obtain ⟨k, hk⟩ := ih f (i + 1) (m - l.length ^ i) (by omega) h2 (by omega)
        refine ⟨k + 1, ?_⟩
        have p1 := pow_le3 l.length i hN (by omega)
        have p2 := pow_le3 l.length (i + 1) hN (by omega)
        have e1 : ((l.length ^ i : Nat) : Int) * (l.length : Int) = ((l.length ^ (i + 1) : Nat) : Int) := by rw [Nat.pow_succ, Int.natCast_mul]
        have e2 : (m : Int) - ((l.length ^ i : Nat) : Int) = ((m - l.length ^ i : Nat) : Int) := by omega
        simp only [whetstoneref18_Run.l0, List.length_map]
        rw [if_pos (by omega), e1, e2, wrap64_lit ((m - l.length ^ i : Nat) : Int) (by omega) (by omega), wrap_up _ (by omega), wrap64_lit _ (by omega) (by omega)]
        exact hk
theorem rRun_eq (ho : ops.length ≤ 6) (hr : regs.length ≤ 6) (hm : imms.length ≤ 6) (n : Int) : Ev (fun k => whetstoneref18_Run.f k ops regs imms len n) ((runR ops regs imms len n).1.map toS, (runR ops regs imms len n).2) := by
  obtain ⟨ki, hi⟩ := rInsts_eq ops regs imms len ho hr hm
  obtain ⟨kc, hcn⟩ := rCount_eq ops regs imms len ho hr hm
  have hl := ins_len ops regs imms len ho hr hm
  have upi : ∀ k, ki ≤ k → whetstoneref18_Insts.f k ops regs imms len = _ := fun k hk => up_mono (F := fun k => whetstoneref18_Insts.f k ops regs imms len) (whetstoneref18_Insts.mono ops regs imms len) hk hi
  have upc : ∀ k, kc ≤ k → whetstoneref18_Count.f k ops regs imms len = _ := fun k hk => up_mono (F := fun k => whetstoneref18_Count.f k ops regs imms len) (whetstoneref18_Count.mono ops regs imms len) hk hcn
  by_cases hc : chk ops regs imms len = 0
  · rw [if_pos hc] at upc
    by_cases hn : n < 0 ∨ ((cs (ins ops regs imms len).length (len.toNat + 1) : Nat) : Int) ≤ n
    · rw [runR_out ops regs imms len n hc hn]
      refine ⟨ki + kc + 1, ?_⟩
      show whetstoneref18_Run.f _ ops regs imms len n = _
      unfold whetstoneref18_Run.f
      rw [upi _ (by omega), obs, if_pos hc, upc _ (by omega), obs]
      by_cases h0 : n < 0
      · rw [if_pos h0]
        simp [whetstoneref18_Run.j0]
      · rw [if_neg h0, decide_eq_true (show n ≥ _ by omega)]
        simp [whetstoneref18_Run.j0]
    · obtain ⟨j, r, e, h1, h2, h3, h4⟩ := runR_in ops regs imms len n hc (by omega) (by omega)
      obtain ⟨g1, g2⟩ := chk_len ops regs imms len hc
      rw [h4]
      have p2 := cs_le (ins ops regs imms len).length hl (len.toNat + 1) (by omega)
      have hk := rRun_l0 (ins ops regs imms len) hl j r (by omega) h2 j (len.toNat + 1) 0 n.toNat (by omega) e (by omega)
      obtain ⟨k, hk1, hk2⟩ := ev_at (fun k => (whetstoneref18_Run.mono_l k).2.1 _ _ _ _) hk (ki + kc)
      refine ⟨k + 1, ?_⟩
      show whetstoneref18_Run.f _ ops regs imms len n = _
      unfold whetstoneref18_Run.f
      rw [upi _ (by omega), obs, if_pos hc, upc _ (by omega), obs, if_neg (by omega), decide_eq_false (show ¬ n ≥ _ by omega)]
      simp only [whetstoneref18_Run.j0]
      rw [if_neg (by decide)]
      rw [show ((n.toNat : Nat) : Int) = n by omega] at hk2
      exact hk2
  · rw [runR_none ops regs imms len n hc]
    refine ⟨ki, ?_⟩
    show whetstoneref18_Run.f _ ops regs imms len n = _
    unfold whetstoneref18_Run.f
    rw [upi _ (Nat.le_refl _), obs, if_neg hc]
    rfl
theorem Same_eq (l : List S25) (hl : l.length ≤ 100000) : Ev (fun k => whetstoneref05_Same.f k l l) true := by
  have h : ∀ d i : Nat, i + d = l.length → whetstoneref05_Same.l0 (d + 1) l l (i : Int) = some true := by
    intro d
    induction d with
    | zero =>
      intro i h1
      simp only [whetstoneref05_Same.l0]
      rw [if_neg (by omega)]
    | succ d ih =>
      intro i h1
      have := ih (i + 1) (by omega)
      rw [whetstoneref05_Same.l0, if_pos (by omega), if_pos (by omega), wrap_up _ (by omega)]
      simp [this]
      refine ⟨by omega, ?_⟩
      rw [Int.natCast_add] at this
      exact this
  refine ⟨l.length + 1, ?_⟩
  show whetstoneref05_Same.f _ l l = _
  unfold whetstoneref05_Same.f
  rw [if_pos rfl]
  exact h l.length 0 (by omega)
end
end Go.Proofs.Ytcjbdfhofpfooaa.Q
