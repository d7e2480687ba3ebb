import Derived.Test.YtcjbdfhofpfooaaZQx0
import Derived.Test.YtcjbdfhofpfooaaZQx11
import Derived.Test.YtcjbdfhofpfooaaZQx12
import Derived.Test.YtcjbdfhofpfooaaZQx13
import Derived.Test.YtcjbdfhofpfooaaZQx14
import Derived.Test.YtcjbdfhofpfooaaZQx15
import Derived.Test.YtcjbdfhofpfooaaZQx16
import Derived.Test.YtcjbdfhofpfooaaZQx17
import Derived.Test.YtcjbdfhofpfooaaZQx7
import Derived.Test.YtcjbdfhofpfooaaZQx8
import Derived.Test.YtcjbdfhofpfooaaZPB
import Derived.WalkKit
import Derived.Outline
namespace Go.Proofs.Ytcjbdfhofpfooaa.Q
open Go.RowKit Go.Proofs.YtcjbdfhofpfooaaW.PrintWords Go.Proofs.YtcjbdfhofpfooaaW.PrintLast Go.Proofs.YtcjbdfhofpfooaaW.PrintMore
set_option linter.unusedVariables false
set_option linter.unusedSimpArgs false
/-! ## the reference's instructions -/
/-- Told by some number of rounds. -/
def Ev {α : Type} (F : Nat → Option α) (r : α) : Prop := ∃ k, F k = some r
theorem ev_at {α : Type} {F : Nat → Option α} {r : α} (hm : ∀ k, LeO (F k) (F (k + 1))) (h : Ev F r) (k0 : Nat) : ∃ k, k0 ≤ k ∧ F k = some r := by
  obtain ⟨k, hk⟩ := h
  exact ⟨k0 + k, by omega, up_mono hm (by omega) hk⟩
section
variable (ops regs imms : List Int) (len : Int)
/-- The third parts, of a form. -/
def third (f op rg a : Int) : List S25 := (Gm.row3 f op rg a (Gm.trdL f regs imms)).map toS
/-- All of a kind and an Rd. -/
def oneL (op rg : Int) : List Gm.In := Gm.row2 (frm op) op rg (Gm.sndL (frm op) regs) (Gm.trdL (frm op) regs imms)
theorem oneL_len (op rg : Int) (hr : regs.length ≤ 6) (hi : imms.length ≤ 6) : (oneL regs imms op rg).length ≤ 36 := by
  unfold oneL Gm.row2
  have := Gm.flat_len (fun a => Gm.row3 (frm op) op rg a (Gm.trdL (frm op) regs imms)) 6 (Gm.sndL (frm op) regs) (fun a _ => by
    unfold Gm.row3 Gm.trdL
    rw [List.length_map]
    split <;> omega)
  have h2 : (Gm.sndL (frm op) regs).length ≤ 6 := by
    unfold Gm.sndL
    split
    · simp
    · exact hr
  omega
theorem allL_len (ho : ops.length ≤ 6) (hr : regs.length ≤ 6) (hm : imms.length ≤ 6) : (Gm.allL frm rgt ops regs imms).length ≤ 1296 := by
  unfold Gm.allL
  refine Nat.le_trans (List.length_filter_le _ _) ?_
  have := Gm.flat_len (fun op => Gm.row1 (frm op) op regs (Gm.sndL (frm op) regs) (Gm.trdL (frm op) regs imms)) 216 ops (fun op _ => by
    have := Gm.flat_len (fun rg => oneL regs imms op rg) 36 regs (fun x _ => oneL_len regs imms _ x hr hm)
    unfold Gm.row1
    show (regs.flatMap fun rg => oneL regs imms op rg).length ≤ 216
    omega)
  omega
end
/-! ## the reference's Insts, Count -/
theorem Plain_none (a : Int) (h : ¬ (18 ≤ a ∧ a ≤ 26)) : inst_Plain.f a = some (0, false) := by
  unfold inst_Plain.f
  rw [if_neg (by omega), if_neg (by omega), if_neg (by omega), if_neg (by omega), if_neg (by omega), if_neg (by omega), if_neg (by omega), if_neg (by omega), if_neg (by omega)]
theorem Plain_some (a : Int) : ∃ p, inst_Plain.f a = some (p, Gm.isPl a) := by
  unfold Gm.isPl
  by_cases h : 18 ≤ a ∧ a ≤ 26
  · rw [decide_eq_true h]
    unfold inst_Plain.f
    (repeat' split) <;> first | exact ⟨_, rfl⟩ | omega
  · rw [decide_eq_false h]
    exact ⟨0, Plain_none a h⟩
theorem lift_eq (x : Gm.In) (k : Nat) (hk : 4 ≤ k) : lift_Plain.f k x.op x.rd x.a x.b x.m = some (Gm.lftv frm rgt x) := by
  obtain ⟨p, hp⟩ := Plain_some x.op
  unfold lift_Plain.f Gm.lftv
  rw [Right_eq _ _ _ _ _ _ hk, obs, hp]
  show (if rgt x = true then _ else _) = _
  cases hr : rgt x
  · rfl
  · rw [if_pos rfl, obs]
    cases Gm.isPl x.op
    · rw [if_neg Bool.false_ne_true]
      by_cases h0 : x.op = 0
      · rw [if_pos h0]; simp [h0]
      by_cases h1 : x.op = 1
      · rw [if_neg h0, if_pos h1]; simp [h1]
      rw [if_neg h0, if_neg h1, Form_eq, obs, show (x.op == 0) = false from beq_eq_false_iff_ne.mpr h0, show (x.op == 1) = false from beq_eq_false_iff_ne.mpr h1]
      rfl
    · rw [if_pos rfl]
      rfl
section
variable (ops regs imms : List Int) (len : Int)
theorem ins_len (ho : ops.length ≤ 6) (hr : regs.length ≤ 6) (hm : imms.length ≤ 6) : (ins ops regs imms len).length ≤ 1296 := by
  have hl := allL_len ops regs imms ho hr hm
  unfold ins Gm.insv
  split
  · exact hl
  · simp
/-- How many runs of fewer than so many instructions. -/
def cs (N : Nat) : Nat → Nat
  | 0 => 0
  | j + 1 => cs N j + N ^ j
theorem pow_le3 (N j : Nat) (hN : N ≤ 1296) (hj : j ≤ 4) : N ^ j ≤ 2821109907456 := by
  have h1 : N ^ j ≤ 1296 ^ j := Nat.pow_le_pow_left hN j
  have h2 : 1296 ^ j ≤ 1296 ^ 4 := Nat.pow_le_pow_right (by omega) hj
  have h3 : 1296 ^ 4 = 2821109907456 := by decide
  omega
theorem cs_le (N : Nat) (hN : N ≤ 1296) : ∀ j : Nat, j ≤ 5 → cs N j ≤ j * 2821109907456 := by
  intro j
  induction j with
  | zero => intro _; simp [cs]
  | succ j ih =>
    intro h
    have := pow_le3 N j hN (by omega)
    have := ih (by omega)
    unfold cs
    omega
theorem chk_len (h : chk ops regs imms len = 0) : 0 ≤ len ∧ len ≤ 3 := by
  unfold chk Gm.chkv at h
  split at h
  · cases h
  · rename_i h1
    constructor
    · exact Int.not_lt.mp fun h2 => h1 (Or.inr (Or.inr (Or.inl h2)))
    · exact Int.not_lt.mp fun h2 => h1 (Or.inr (Or.inr (Or.inr h2)))
theorem pows_get (N m j : Nat) (h : j < m) : rd (Gm.pows N m) (j : Int) = ((N ^ j : Nat) : Int) := by
  unfold rd Gm.pows
  rw [Int.toNat_natCast, List.getD_eq_getElem?_getD, List.getElem?_map, List.getElem?_range h]
  rfl
theorem pows_len (N m : Nat) : (Gm.pows N m).length = m := by simp [Gm.pows]
theorem pows_succ (N m : Nat) : Gm.pows N (m + 1) = Gm.pows N m ++ [((N ^ m : Nat) : Int)] := by simp [Gm.pows, List.range_succ]
theorem runs_l0 (N : Nat) (hN : N ≤ 1296) (L : Nat) (hL : L ≤ 3) : ∀ d i : Nat, i + d = L → Ev (fun k => grammar_runs.l0 k (N : Int) (Gm.pows N (i + 1)) (L : Int) (i : Int)) (Gm.pows N (L + 1)) := by
  intro d
  induction d with
  | zero =>
    intro i h1
    refine ⟨1, ?_⟩
    obtain rfl : i = L := by omega
    simp only [grammar_runs.l0]
    rw [if_neg (by omega)]
  | succ d ih =>
    intro i h1
    obtain ⟨k, hk⟩ := ih (i + 1) (by omega)
    refine ⟨k + 1, ?_⟩
    simp only [grammar_runs.l0]
    have p1 := pow_le3 N (i + 1) hN (by omega)
    have e1 : (N : Int) * ((N ^ i : Nat) : Int) = ((N ^ (i + 1) : Nat) : Int) := by rw [Nat.pow_succ, Nat.mul_comm, Int.natCast_mul]
    rw [if_pos (by omega), if_pos (by omega), if_pos (by rw [pows_len]; omega), if_pos (by rw [pows_len]; omega), pows_get N (i + 1) i (by omega), e1, wrap64_lit _ (by omega) (by omega), wrap_up _ (by omega), ← pows_succ]
    exact hk
theorem Count_l0 (N : Nat) (hN : N ≤ 1296) (L : Nat) (hL : L ≤ 4) : ∀ d i : Nat, i + d = L → Ev (fun k => grammar_Count.l0 k ((cs N i : Nat) : Int) (Gm.pows N L) (L : Int) (i : Int)) (((cs N L : Nat) : Int), 0) := by
  intro d
  induction d with
  | zero =>
    intro i h1
    refine ⟨1, ?_⟩
    obtain rfl : i = L := by omega
    simp only [grammar_Count.l0]
    rw [if_neg (by omega)]
  | succ d ih =>
    intro i h1
    obtain ⟨k, hk⟩ := ih (i + 1) (by omega)
    refine ⟨k + 1, ?_⟩
    simp only [grammar_Count.l0]
    have p1 := pow_le3 N i hN (by omega)
    have p2 := cs_le N hN i (by omega)
    have e2 : cs N (i + 1) = cs N i + N ^ i := rfl
    rw [if_pos (by omega), if_pos (by omega), if_pos (by rw [pows_len]; omega), pows_get N L i (by omega), ← Int.natCast_add, ← e2, wrap64_lit _ (by omega) (by omega), wrap_up _ (by omega)]
    exact hk
theorem Count_eq (ho : ops.length ≤ 6) (hr : regs.length ≤ 6) (hm : imms.length ≤ 6) : Ev (fun k => grammar_Count.f k ops regs imms len) (if chk ops regs imms len = 0 then (((cs (ins ops regs imms len).length (len.toNat + 1) : Nat) : Int), 0) else (0, chk ops regs imms len)) := by
  have hl := ins_len ops regs imms len ho hr hm
  have hi : grammar_Insts.f ops regs imms len = some ((ins ops regs imms len).map toS, chk ops regs imms len) := by
    unfold grammar_Insts.f
    rw [if_pos (show szL ops regs imms from ⟨by omega, by omega, by omega⟩)]
  by_cases hc : chk ops regs imms len = 0
  · rw [if_pos hc]
    obtain ⟨h0, h3⟩ := chk_len ops regs imms len hc
    obtain ⟨L, rfl⟩ := Int.eq_ofNat_of_zero_le h0
    have h1 := runs_l0 (ins ops regs imms L).length hl L (by omega) L 0 (by omega)
    have h2 := Count_l0 (ins ops regs imms L).length hl (L + 1) (by omega) (L + 1) 0 (by omega)
    obtain ⟨k, hk, hk2⟩ := ev_at (fun k => grammar_Count.mono_l k _ _ _ _) h2 h1.choose
    refine ⟨k, ?_⟩
    have hr1 := up_mono (F := fun k => grammar_runs.l0 k ((ins ops regs imms L).length : Int) (Gm.pows (ins ops regs imms L).length (0 + 1)) (L : Int) ((0 : Nat) : Int)) (fun k => grammar_runs.mono_l k _ _ _ _) hk h1.choose_spec
    show grammar_Count.f k ops regs imms L = _
    unfold grammar_Count.f grammar_runs.f
    rw [hi, obs, if_pos hc]
    rw [List.length_map]
    have e1 : ([1] : List Int) = Gm.pows (ins ops regs imms L).length (0 + 1) := by simp [Gm.pows]
    rw [e1]
    refine (congrArg (fun o => Option.bind o _) hr1).trans ?_
    rw [obs, pows_len]
    exact hk2
  · rw [if_neg hc]
    refine ⟨0, ?_⟩
    show grammar_Count.f 0 ops regs imms len = _
    unfold grammar_Count.f
    rw [hi, obs, if_neg hc]
end
/-! ## the runs -/
theorem findR_spec (N : Nat) : ∀ f i m : Nat, (m + cs N i < cs N (i + f) → ∃ j r, Gm.findR N f i m = some (j, r) ∧ i ≤ j ∧ j < i + f ∧ r < N ^ j ∧ r + cs N j = m + cs N i) ∧ (cs N (i + f) ≤ m + cs N i → Gm.findR N f i m = none) := by
  intro f
  induction f with
  | zero => intro i m; exact ⟨fun h => by simp at h; omega, fun _ => rfl⟩
  | succ f ih =>
    intro i m
    have e1 : cs N (i + 1) = cs N i + N ^ i := rfl
    have e2 : i + 1 + f = i + (f + 1) := by omega
    have h1 := ih (i + 1) (m - N ^ i)
    rw [e2] at h1
    by_cases h : m < N ^ i
    · refine ⟨fun _ => ⟨i, m, by simp only [Gm.findR]; rw [if_pos h], Nat.le_refl _, by omega, h, rfl⟩, fun h2 => ?_⟩
      exfalso
      have mono : ∀ f, cs N (i + 1) ≤ cs N (i + 1 + f) := by
        intro f
        induction f with
        | zero => exact Nat.le_refl _
        | succ f ih => exact Nat.le_trans ih (by show _ ≤ cs N (i + 1 + f) + N ^ (i + 1 + f); omega)
      have := mono f
      rw [e2] at this
      omega
    · have e3 : Gm.findR N (f + 1) i m = Gm.findR N f (i + 1) (m - N ^ i) := by simp only [Gm.findR]; rw [if_neg h]
      rw [e3]
      refine ⟨fun h2 => ?_, fun h2 => h1.2 (by omega)⟩
      obtain ⟨j, r, a1, a2, a3, a4, a5⟩ := h1.1 (by omega)
      exact ⟨j, r, a1, by omega, a3, a4, by omega⟩
/-- A run: its parts, by the digits. -/
def runL (l : List Gm.In) (i m : Nat) : List Gm.In := (List.range i).map fun p => l.getD (m / l.length ^ (i - 1 - p) % l.length) default
theorem runL_len (l : List Gm.In) (i m : Nat) : (runL l i m).length = i := by simp [runL]
theorem runRow_part (l : List Gm.In) (i m : Nat) : ∀ t : Nat, t ≤ i → ((List.range t).map fun j => i - 1 - j).foldl (Gm.runStep l) (List.replicate i default, m) = ((List.range i).map fun p => if p < i - t then default else l.getD (m / l.length ^ (i - 1 - p) % l.length) default, m / l.length ^ t) := by
  intro t
  induction t with
  | zero =>
    intro _
    simp only [List.range_zero, List.map_nil, List.foldl_nil, Nat.pow_zero, Nat.div_one]
    congr 1
    apply List.ext_getElem
    · simp
    · intro p h1 h2
      simp at h1 h2 ⊢
      intro h
      omega
  | succ t ih =>
    intro h
    rw [List.range_succ, List.map_append, List.foldl_append, ih (by omega)]
    simp only [List.map_cons, List.map_nil, List.foldl_cons, List.foldl_nil, Gm.runStep]
    congr 1
    · apply List.ext_getElem
      · simp
      · intro p h1 h2
        simp only [List.length_set, List.length_map, List.length_range] at h1
        rw [List.getElem_set]
        simp only [List.getElem_map, List.getElem_range]
        by_cases hp : i - 1 - t = p
        · rw [if_pos hp, if_neg (by omega), show i - 1 - p = t by omega]
        · rw [if_neg hp]
          by_cases hq : p < i - t
          · rw [if_pos hq, if_pos (by omega)]
          · rw [if_neg hq, if_neg (by omega)]
    · rw [Nat.div_div_eq_div_mul, Nat.pow_succ]
theorem runRow_eq (l : List Gm.In) (i m : Nat) : (Gm.runRow l i m (Gm.downTo i 0)).1 = runL l i m := by
  unfold Gm.runRow Gm.downTo
  rw [Nat.sub_zero, runRow_part l i m i (Nat.le_refl _)]
  unfold runL
  apply List.ext_getElem
  · simp
  · intro p h1 h2
    simp only [List.getElem_map, List.getElem_range]
    rw [if_neg (by omega)]
theorem runR_in (ops regs imms : List Int) (len n : Int) (h : chk ops regs imms len = 0) (h0 : 0 ≤ n) (hn : n < ((cs (ins ops regs imms len).length (len.toNat + 1) : Nat) : Int)) :
    ∃ j r, Gm.findR (ins ops regs imms len).length (len.toNat + 1) 0 n.toNat = some (j, r) ∧ j ≤ len.toNat ∧ r < (ins ops regs imms len).length ^ j ∧ r + cs (ins ops regs imms len).length j = n.toNat ∧ runR ops regs imms len n = (runL (ins ops regs imms len) j r, 0) := by
  obtain ⟨j, r, e, h1, h2, h3, h4⟩ := (findR_spec (ins ops regs imms len).length (len.toNat + 1) 0 n.toNat).1 (by have e0 : cs (ins ops regs imms len).length 0 = 0 := rfl; rw [Nat.zero_add, e0]; omega)
  refine ⟨j, r, e, by omega, h3, by simpa [cs] using h4, ?_⟩
  unfold runR Gm.runv
  rw [if_neg (by rw [h]; decide), if_neg (by omega), e]
  simp only [runRow_eq]
section
variable (ops regs imms : List Int) (len : Int)
theorem toS_at (l : List Gm.In) (j : Nat) (h : j < l.length) : rd_T25 (l.map toS) (j : Int) = toS (l.getD j default) := by
  unfold rd_T25
  rw [Int.toNat_natCast, List.getD_eq_getElem?_getD, List.getElem?_map, List.getD_eq_getElem?_getD, List.getElem?_eq_getElem h]
  rfl
end
end Go.Proofs.Ytcjbdfhofpfooaa.Q
