import Derived.Test.YtcjbdfhofpfooaaZQx0
import Derived.Test.YtcjbdfhofpfooaaZQx2
import Derived.Test.YtcjbdfhofpfooaaZQx3
-- Written by this session's own driver (wip/tools/ownprint.py) over the kit's print: walks of the translated Go, each function once.
namespace Go.Proofs.Ytcjbdfhofpfooaa.Q
open Go.RowKit Go.Proofs.YtcjbdfhofpfooaaW.PrintWords Go.Proofs.YtcjbdfhofpfooaaW.PrintLast Go.Proofs.YtcjbdfhofpfooaaW.PrintMore
attribute [local go_sem] max2_int min2_int max_two min_two max_three min_three max_four min_four   -- for this text's walks alone
attribute [local go_sem] imax_u32 imax_u8 isg_u32 isg_u8
set_option linter.unusedVariables false
set_option linter.unusedSimpArgs false

/-! ### grammar_all: function 35 -/
theorem obs {α β : Type} (a : α) (f : α → Option β) : (some a).bind f = f a := by
  have h : ∀ o : Option α, o = some a → o.bind f = f a := by intro o ho; subst ho; rfl
  exact h _ rfl
/-! ## closed forms -/
/-- The form of a kind. -/
def frm (op : Int) : Int := if 0 ≤ op ∧ op < 47 then (kGet op.toNat).1 else 0
theorem Form_eq (op : Int) : inst_Form.f op = some (frm op) := rfl
theorem frm_in : ∀ n : Fin 47, (kGet n.val).1 = 85 ∨ (kGet n.val).1 = 74 ∨ (kGet n.val).1 = 73 ∨ (kGet n.val).1 = 66 ∨ (kGet n.val).1 = 83 ∨ (kGet n.val).1 = 72 ∨ (kGet n.val).1 = 82 ∨ (kGet n.val).1 = 69 := by decide
theorem frm_cases (op : Int) : (¬ (0 ≤ op ∧ op < 47) ∧ frm op = 0) ∨ ((0 ≤ op ∧ op < 47) ∧ (frm op = 85 ∨ frm op = 74 ∨ frm op = 73 ∨ frm op = 66 ∨ frm op = 83 ∨ frm op = 72 ∨ frm op = 82 ∨ frm op = 69)) := by
  by_cases h : 0 ≤ op ∧ op < 47
  · right
    obtain ⟨n, rfl⟩ := Int.eq_ofNat_of_zero_le h.1
    refine ⟨h, ?_⟩
    unfold frm
    rw [if_pos h, Int.toNat_natCast]
    exact frm_in ⟨n, by omega⟩
  · left; refine ⟨h, ?_⟩; unfold frm; rw [if_neg h]
/-- Which registers a form has. -/
def hRd (f : Int) : Bool := decide (f = 85 ∨ f = 74 ∨ f = 73 ∨ f = 72 ∨ f = 82)
def hR1 (f : Int) : Bool := decide (f = 73 ∨ f = 72 ∨ f = 66 ∨ f = 83 ∨ f = 82)
def hR2 (f : Int) : Bool := decide (f = 66 ∨ f = 83 ∨ f = 82)
theorem has_eq (f : Int) (k : Nat) (hk : 4 ≤ k) : inst_has.f k f = some (hRd f, hR1 f, hR2 f) := by
  obtain ⟨k, rfl⟩ : ∃ m, k = m + 4 := ⟨k - 4, by omega⟩
  unfold hRd hR1 hR2 inst_has.f
  by_cases h1 : f = 85
  · subst h1; rfl
  by_cases h2 : f = 74
  · subst h2; rfl
  by_cases h3 : f = 73
  · subst h3; rfl
  by_cases h4 : f = 72
  · subst h4; rfl
  by_cases h5 : f = 66
  · subst h5; rfl
  by_cases h6 : f = 83
  · subst h6; rfl
  by_cases h7 : f = 82
  · subst h7; rfl
  rw [if_neg h1, show (f == 74) = false from beq_eq_false_iff_ne.mpr h2]
  simp only [inst_has.j0, inst_has.j1, inst_has.j2]
  rw [if_neg (by decide), if_neg h3, show (f == 72) = false from beq_eq_false_iff_ne.mpr h4, if_neg (by decide), if_neg h5, show (f == 83) = false from beq_eq_false_iff_ne.mpr h6, if_neg (by decide), if_neg h7]
  simp [h1, h2, h3, h4, h5, h6, h7]
/-- May a number be, of a form. -/
def numb (f m : Int) : Bool :=
  if f = 85 then decide (0 ≤ m ∧ m ≤ 1048575) else if f = 74 then decide (-1048576 ≤ m ∧ m ≤ 1048574 ∧ m % 2 = 0)
  else if f = 73 ∨ f = 83 then decide (-2048 ≤ m ∧ m ≤ 2047) else if f = 66 then decide (-4096 ≤ m ∧ m ≤ 4094 ∧ m % 2 = 0)
  else if f = 72 then decide (0 ≤ m ∧ m ≤ 31) else decide (m = 0)
theorem between_eq (a b c : Int) : inst_between.f a b c = some (decide (b ≤ a ∧ a ≤ c)) := by
  unfold inst_between.f
  by_cases h : a ≥ b
  · rw [if_pos h]; congr 1; rw [decide_eq_decide]; omega
  · rw [if_neg h, decide_eq_false (by omega)]
theorem tmod2 (m : Int) : (Int.tmod m 2 == 0) = decide (m % 2 = 0) := by
  have h : (Int.tmod m 2 = 0) ↔ (m % 2 = 0) := by
    rw [← Int.dvd_iff_tmod_eq_zero, Int.dvd_iff_emod_eq_zero]
  by_cases e : m % 2 = 0
  · rw [decide_eq_true e, beq_iff_eq.mpr (h.mpr e)]
  · rw [decide_eq_false e]; exact beq_eq_false_iff_ne.mpr (fun q => e (h.mp q))
theorem ite_and (p q : Prop) [Decidable p] [Decidable q] : (if decide p = true then some (decide q) else some false) = some (decide (p ∧ q)) := by
  by_cases h : p
  · simp [h]
  · simp [h]
theorem number_eq (f m : Int) (k : Nat) (hk : 1 ≤ k) : inst_number.f k f m = some (numb f m) := by
  obtain ⟨k, rfl⟩ : ∃ m, k = m + 1 := ⟨k - 1, by omega⟩
  unfold numb inst_number.f
  by_cases h1 : f = 85
  · rw [if_pos h1, if_pos h1, between_eq, obs]
  rw [if_neg h1, if_neg h1]
  by_cases h2 : f = 74
  · rw [if_pos h2, if_pos h2, between_eq, obs, tmod2, ite_and]; congr 1; rw [decide_eq_decide]; omega
  rw [if_neg h2, if_neg h2]
  simp only [inst_number.j0, between_eq, obs, tmod2, ite_and]
  by_cases h3 : f = 73
  · subst h3; rfl
  by_cases h4 : f = 83
  · subst h4; rfl
  rw [if_neg h3, show (f == 83) = false from beq_eq_false_iff_ne.mpr h4, if_neg (by decide), if_neg (show ¬ (f = 73 ∨ f = 83) by omega)]
  by_cases h5 : f = 66
  · rw [if_pos h5, if_pos h5]; congr 1; rw [decide_eq_decide]; omega
  rw [if_neg h5, if_neg h5]
  by_cases h6 : f = 72
  · rw [if_pos h6, if_pos h6]
  rw [if_neg h6, if_neg h6]
  rfl
/-- May a register be. -/
def regv (b : Bool) (n : Int) : Bool := decide ((b = true ∧ 0 ≤ n ∧ n ≤ 31) ∨ n = 0)
theorem register_eq (b : Bool) (n : Int) : inst_register.f b n = some (regv b n) := by
  unfold inst_register.f regv
  cases b
  · rw [if_neg (by decide)]; congr 1; by_cases h : n = 0 <;> simp [h]
  · rw [if_pos rfl, between_eq, obs]
    by_cases h : 0 ≤ n ∧ n ≤ 31
    · rw [if_pos (decide_eq_true h), decide_eq_true (Or.inl ⟨rfl, h⟩)]
    · rw [if_neg (by rw [decide_eq_false h]; decide)]; congr 1
      by_cases h0 : n = 0
      · omega
      · rw [show (n == 0) = false from beq_eq_false_iff_ne.mpr h0, decide_eq_false (by omega)]
/-- May an instruction be. -/
def rightv (a0 a1 a2 a3 a4 : Int) : Bool := decide (frm a0 ≠ 0) && (regv (hRd (frm a0)) a1 && (regv (hR1 (frm a0)) a2 && (regv (hR2 (frm a0)) a3 && numb (frm a0) a4)))
theorem Right_eq (a0 a1 a2 a3 a4 : Int) (k : Nat) (hk : 4 ≤ k) : inst_Right.f k a0 a1 a2 a3 a4 = some (rightv a0 a1 a2 a3 a4) := by
  unfold inst_Right.f rightv
  rw [Form_eq, obs, has_eq _ k hk, obs]
  by_cases h : frm a0 = 0
  · rw [if_pos h, decide_eq_false (by simp [h])]; rfl
  rw [if_neg h, decide_eq_true h, register_eq, obs, register_eq, obs, register_eq, obs, number_eq _ _ k (by omega), obs]
  cases regv (hRd (frm a0)) a1 <;> cases regv (hR1 (frm a0)) a2 <;> cases regv (hR2 (frm a0)) a3 <;> rfl

theorem formC : Gm.FormC frm := fun op w => inst_Form.calls op (frm op) w rfl
/-- May an instruction be. -/
def rgt (x : Gm.In) : Bool := rightv x.op x.rd x.a x.b x.m
theorem rightC : Gm.RightC rgt := fun x w => inst_Right.calls 4 x.op x.rd x.a x.b x.m (rgt x) w (Right_eq _ _ _ _ _ 4 (Nat.le_refl _))
def toS (x : Gm.In) : S25 := ⟨x.op, x.rd, x.a, x.b, x.m⟩
theorem readN_of {w : World} {A : Option Addr} {c : Nat} {l : List Int} (h : Kd.C (Kd.int .i64) w A l.length l) : Gm.ReadN w.heap.size w (.slice A l.length c) l := by
  refine ⟨A, c, rfl, fun hl => ?_⟩
  have hp : 0 < l.length := List.length_pos_iff.2 hl
  obtain ⟨ad, e, hc⟩ := h.2.2 hp
  have key : ∀ j x, l[j]? = some x → w.cell? (ad.add j) = some (.int .i64 x) := fun j x hx => by
    obtain ⟨c, _, hk, hcell⟩ := hc j x hx
    have hk' : c = [.int .i64 x] := hk
    subst hk'
    have := hcell 0 _ rfl
    rw [show j * (Kd.int .i64).sz + 0 = j by show j * 1 + 0 = j; omega] at this
    exact this
  have k0 := key 0 l[0] (List.getElem?_eq_getElem hp)
  obtain ⟨b, off, sp⟩ := ad
  have hs : sp = none := by
    cases sp with
    | none => rfl
    | some s => exfalso; unfold World.cell? at k0; simp only [Addr.add] at k0; split at k0 <;> simp at k0
  subst hs
  have hlt : b < w.heap.size := World.block_lt_of_cell? w ((⟨b, off, none⟩ : Addr).add 0) k0
  refine ⟨b, off, e, hlt, fun j x hx => ?_⟩
  have := key j x hx
  have e2 : (⟨b, off, none⟩ : Addr).add j = ⟨b, off + j, none⟩ := by unfold Addr.add; split <;> simp_all
  rw [e2] at this
  exact this
theorem drop_ivs (l : List Gm.In) (j : Nat) (x : Gm.In) (h : l[j]? = some x) : ((Gm.ivs l).drop (j * 5)).take 5 = Gm.iv x := by
  induction l generalizing j with
  | nil => simp at h
  | cons y l ih =>
    cases j with
    | zero =>
      simp only [List.getElem?_cons_zero, Option.some.injEq] at h
      subst h
      simp [Gm.ivs, Gm.iv]
    | succ j =>
      simp only [List.getElem?_cons_succ] at h
      have := ih j h
      rw [show (j + 1) * 5 = 5 + j * 5 by omega, ← List.drop_drop]
      simpa [Gm.ivs, Gm.iv] using this
theorem R_of_own {w : World} {base : Nat} {v : Value} {l : List Gm.In} (h : Gm.OwnI w base v l) : Kd.R k25 25 w base (fun _ => True) v (l.map toS) := by
  refine ⟨fun _ _ => trivial, Gm.ivs l, ?_, ?_, fun j p hj => ?_⟩
  · rw [List.length_map]; exact h
  · rw [List.length_map]; exact Gm.ivs_length l
  · rw [List.getElem?_map] at hj
    obtain ⟨x, hx, rfl⟩ := Option.map_eq_some_iff.1 hj
    have e := drop_ivs l j x hx
    show k25.M _ _ _ _ (((Gm.ivs l).drop (j * 5)).take 5)
    rw [e]
    exact k25_mkM w base _ (toS x)
/-- Not too large. -/
def szL (a b c : List Int) : Prop := a.length ≤ 99 ∧ b.length ≤ 99 ∧ c.length ≤ 99
instance (a b c : List Int) : Decidable (szL a b c) := by unfold szL; infer_instance
def grammar_all.f (l0_0 : List Int) (l0_1 : List Int) (l0_2 : List Int) (a0_3 : Int) : Option (List (S25)) := if szL l0_0 l0_1 l0_2 then some (((Gm.allL frm rgt l0_0 l0_1 l0_2).take 4097).map toS) else none
theorem grammar_all.calls (A0_0 : Option Addr) (c0_0 : Nat) (l0_0 : List Int) (A0_1 : Option Addr) (c0_1 : Nat) (l0_1 : List Int) (A0_2 : Option Addr) (c0_2 : Nat) (l0_2 : List Int) (a0_3 : Int) (r : List (S25)) (w : World) (hr0_0 : Kd.C (Kd.int .i64) w A0_0 l0_0.length l0_0) (hc0_0 : l0_0.length ≤ c0_0) (hr0_1 : Kd.C (Kd.int .i64) w A0_1 l0_1.length l0_1) (hc0_1 : l0_1.length ≤ c0_1) (hr0_2 : Kd.C (Kd.int .i64) w A0_2 l0_2.length l0_2) (hc0_2 : l0_2.length ≤ c0_2) (h : grammar_all.f l0_0 l0_1 l0_2 a0_3 = some r) :
    Calls Try.prog 35 #[.agg #[.slice A0_0 l0_0.length c0_0, .slice A0_1 l0_1.length c0_1, .slice A0_2 l0_2.length c0_2, .int .i64 a0_3]] w fun e w' => ∃ v0_ : Value, e = .returned (v0_) ∧ Kd.R k25 25 w' w.heap.size (fun _ => True) v0_ r ∧ Below w.heap.size w w' := by
  unfold grammar_all.f at h
  split at h
  · rename_i hs
    obtain rfl := Option.some.inj h
    refine (Gm.all_calls frm rgt formC rightC _ _ _ _ _ _ _ _ _ a0_3 w l0_0 l0_1 l0_2 (readN_of hr0_0) (readN_of hr0_1) (readN_of hr0_2) hs.1 hs.2.1 hs.2.2).mono ?_
    rintro e w' ⟨v, rfl, hO, hb⟩
    exact ⟨v, rfl, R_of_own hO, hb⟩
  · cases h

-- NOT PRINTED: function 54 (slices_IndexFunc_int_int)

-- NOT PRINTED: function 40 (slices_ContainsFunc_int_int)

/-! ### grammar_Check: function 22 -/
def knd : Int → Bool := Gm.kndv frm rgt
theorem kindC : Gm.KindC knd := Gm.kind_calls frm rgt formC rightC
def chk (ops regs imms : List Int) (len : Int) : Int := Gm.chkv frm rgt knd ops regs imms len
def grammar_Check.f (l0_0 : List Int) (l0_1 : List Int) (l0_2 : List Int) (a0_3 : Int) : Option (Int) := if szL l0_0 l0_1 l0_2 then some (chk l0_0 l0_1 l0_2 a0_3) else none
theorem grammar_Check.calls (A0_0 : Option Addr) (c0_0 : Nat) (l0_0 : List Int) (A0_1 : Option Addr) (c0_1 : Nat) (l0_1 : List Int) (A0_2 : Option Addr) (c0_2 : Nat) (l0_2 : List Int) (a0_3 : Int) (r : Int) (w : World) (hr0_0 : Kd.C (Kd.int .i64) w A0_0 l0_0.length l0_0) (hc0_0 : l0_0.length ≤ c0_0) (hr0_1 : Kd.C (Kd.int .i64) w A0_1 l0_1.length l0_1) (hc0_1 : l0_1.length ≤ c0_1) (hr0_2 : Kd.C (Kd.int .i64) w A0_2 l0_2.length l0_2) (hc0_2 : l0_2.length ≤ c0_2) (h : grammar_Check.f l0_0 l0_1 l0_2 a0_3 = some r) :
    Calls Try.prog 22 #[.agg #[.slice A0_0 l0_0.length c0_0, .slice A0_1 l0_1.length c0_1, .slice A0_2 l0_2.length c0_2, .int .i64 a0_3]] w fun e w' => e = .returned (.int .i64 r) ∧ Below w.heap.size w w' := by
  unfold grammar_Check.f at h
  split at h
  · rename_i hs
    obtain rfl := Option.some.inj h
    exact Gm.Check_calls frm rgt knd formC rightC kindC _ _ _ _ _ _ _ _ _ a0_3 w l0_0 l0_1 l0_2 (readN_of hr0_0) (readN_of hr0_1) (readN_of hr0_2) hs.1 hs.2.1 hs.2.2
  · cases h

/-! ### grammar_Insts: function 19 -/
def ins (ops regs imms : List Int) (len : Int) : List Gm.In := Gm.insv frm rgt knd ops regs imms len
def grammar_Insts.f (l0_0 : List Int) (l0_1 : List Int) (l0_2 : List Int) (a0_3 : Int) : Option (List (S25) × Int) := if szL l0_0 l0_1 l0_2 then some ((ins l0_0 l0_1 l0_2 a0_3).map toS, chk l0_0 l0_1 l0_2 a0_3) else none
theorem grammar_Insts.calls (A0_0 : Option Addr) (c0_0 : Nat) (l0_0 : List Int) (A0_1 : Option Addr) (c0_1 : Nat) (l0_1 : List Int) (A0_2 : Option Addr) (c0_2 : Nat) (l0_2 : List Int) (a0_3 : Int) (r1 : List (S25)) (r2 : Int) (w : World) (hr0_0 : Kd.C (Kd.int .i64) w A0_0 l0_0.length l0_0) (hc0_0 : l0_0.length ≤ c0_0) (hr0_1 : Kd.C (Kd.int .i64) w A0_1 l0_1.length l0_1) (hc0_1 : l0_1.length ≤ c0_1) (hr0_2 : Kd.C (Kd.int .i64) w A0_2 l0_2.length l0_2) (hc0_2 : l0_2.length ≤ c0_2) (h : grammar_Insts.f l0_0 l0_1 l0_2 a0_3 = some (r1, r2)) :
    Calls Try.prog 19 #[.agg #[.slice A0_0 l0_0.length c0_0, .slice A0_1 l0_1.length c0_1, .slice A0_2 l0_2.length c0_2, .int .i64 a0_3]] w fun e w' => ∃ v0_ : Value, e = .returned (.tuple #[v0_, .int .i64 r2]) ∧ Kd.R k25 25 w' w.heap.size (fun _ => True) v0_ r1 ∧ Below w.heap.size w w' := by
  unfold grammar_Insts.f at h
  split at h
  · rename_i hs
    have h' := Option.some.inj h
    obtain rfl := congrArg Prod.fst h'
    obtain rfl := congrArg Prod.snd h'
    refine (Gm.Insts_calls frm rgt knd formC rightC kindC _ _ _ _ _ _ _ _ _ a0_3 w l0_0 l0_1 l0_2 (readN_of hr0_0) (readN_of hr0_1) (readN_of hr0_2) hs.1 hs.2.1 hs.2.2).mono ?_
    rintro e w' ⟨v, rfl, hO, hb⟩
    exact ⟨v, rfl, R_of_own hO, hb⟩
  · cases h

/-! ### grammar_runs: function 36 -/
def grammar_runs.l0 : Nat → Int → List Int → Int → Int → Option (List Int)
  | 0, _, _, _, _ => none
  | k + 1, x0, x5, x8, x9 => if x9 < x8 then (if 0 ≤ x9 then (if x9 < (x5.length : Int) then (if x5.length < 17592186044416 then (grammar_runs.l0 k x0 (x5 ++ [wrap64 (x0 * (rd x5 x9))]) x8 (wrap64 (x9 + 1))) else (none)) else (none)) else (none)) else (some x5)
def grammar_runs.f (k : Nat) (a0 : Int) (a1 : Int) : Option (List Int) := grammar_runs.l0 k a0 (([1] : List Int)) a1 0
theorem grammar_runs.mono_l : ∀ k, (∀ y0 y1 y2 y3, LeO (grammar_runs.l0 k y0 y1 y2 y3) (grammar_runs.l0 (k + 1) y0 y1 y2 y3))
  | 0 => fun _ _ _ _ r h => by simp [grammar_runs.l0] at h
  | k + 1 => by
    have ih0 := grammar_runs.mono_l k
    · intro y0 y1 y2 y3
      unfold grammar_runs.l0
      repeat' first
      | (with_reducible exact ih0 _ _ _ _)
      | (with_reducible exact LeO.refl _)
      | (with_reducible exact LeO.none _)
      | (with_reducible refine LeO.ite ?_ ?_)
      | (with_reducible refine LeO.bind ?_ (fun _ => ?_))
      | exact ih0 _ _ _ _
      | exact LeO.none _
      | refine LeO.ite ?_ ?_
      | refine LeO.bind ?_ (fun _ => ?_)
theorem grammar_runs.mono : ∀ a0 a1 k, LeO (grammar_runs.f k a0 a1) (grammar_runs.f (k + 1) a0 a1) := by
  intro a0 a1 k
  have ih0 := grammar_runs.mono_l k
  unfold grammar_runs.f
  repeat' first
      | (with_reducible exact ih0 _ _ _ _)
      | (with_reducible exact LeO.refl _)
      | (with_reducible exact LeO.none _)
      | (with_reducible refine LeO.ite ?_ ?_)
      | (with_reducible refine LeO.bind ?_ (fun _ => ?_))
      | exact ih0 _ _ _ _
      | exact LeO.none _
      | refine LeO.ite ?_ ?_
      | refine LeO.bind ?_ (fun _ => ?_)
set_option maxHeartbeats 8000000 in
set_option maxRecDepth 100000 in
theorem grammar_runs.calls (k : Nat) (a0 : Int) (a1 : Int) (r : List Int) (w : World) (h : grammar_runs.f k a0 a1 = some r) :
    Calls Try.prog 36 #[.int .i64 a0, .int .i64 a1] w fun e w' => ∃ v0_ : Value, e = .returned (v0_) ∧ Kd.R (Kd.int .i64) 3 w' w.heap.size (fun _ => True) v0_ r ∧ Below w.heap.size w w' := by
  have HB := Aside0.mk (Below.refl w.heap.size w)
  have H : (grammar_runs.l0 k a0 (([1] : List Int)) a1 0) = some r := h
  clear h
  obtain ⟨y139, hy139⟩ : ∃ y_ : List Int, y_ = (([1] : List Int)) := ⟨_, rfl⟩
  replace H : (grammar_runs.l0 k a0 y139 a1 0) = some r := by first | (rw [hy139]; with_reducible exact H) | (have H2_ := (Option.bind_some _ _).symm.trans H; rw [hy139]; with_reducible exact H2_) | (have H2_ := (Option.bind_some _ _).symm.trans H; with_reducible exact H2_) | with_reducible exact H | (rw [hy139]; exact H) | exact H
  have Ny139 := Aside0.mk hy139
  clear hy139
  have H' := Aside0.mk H
  clear H
  go_enter Try.func36, Try.ntmps36
  go_wp2_with (first | ((with_reducible refine gate_dst (N := 7) rfl ?_); refine Kd.R_lit (Kd.int .i64) _ 3 ?hg (N := 7) ?hd (xs := ([1] : List Int)) (inner := [.int .i64 1]) (ok := fun _ => True) (okp := fun _ => True) ?hr ?hp (fun _ hk => hk) trivial (Below.refl _ _) (Nat.le_refl _) (by simp) ?_; (case hd => rfl); (case hg => rfl); (case hr => first | (go_simp; done) | (go_simp; rfl)); (case hp => exact (Reps.one (show Kd.M (Kd.int .i64) _ _ _ 1 [.int .i64 1] from rfl) (Reps.none _ _))); intro v140 w3 ho4 hb hg_ hnew_; clear hg_ hnew_; (first | rw [← Ny139.out] at ho4 | (simp only [Int.reduceToNat] at ho4; rw [← Ny139.out] at ho4)); have n0_ := Aside0.mk (Kd.R_lower ho4 (below_size (by repeat (first | (with_reducible first | exact HB.out | apply below_alloc | apply pw_below_drewN | apply below_drew1) | exact HB.out)))); have n1_ := Aside0.mk (below_step (by repeat (first | (with_reducible first | exact HB.out | apply below_alloc | apply pw_below_drewN | apply below_drew1) | exact HB.out)) hb); clear HB; have HO141 := n0_; have HB := n1_; clear n0_ n1_; clear hb ho4))
  go_loopg [5, 9] k (fun kq v5 v9 w' => ∃ (x5_1 : List Int) (x9_1 : Int), v9 = .int .i64 x9_1 ∧ Aside0 (grammar_runs.l0 kq a0 x5_1 a1 x9_1 = some r) ∧ Aside0 (kq ≤ k) ∧ Aside0 (Kd.R (Kd.int .i64) 3 w' w.heap.size (fun _ => True) v5 x5_1) ∧ Aside0 (Below w.heap.size w w'))
  case atStart => exact ⟨(y139), (0), (by first | rfl | (simp; done) | (simp [*]; done)), H', ⟨Nat.le_refl _⟩, ⟨by (with_reducible repeat (first | apply Kd.R_alloc | apply Kd.R_drewN | apply Kd.R_drew)); exact HO141.out⟩, ⟨by repeat (first | (with_reducible first | exact HB.out | apply below_alloc | apply pw_below_drewN | apply below_drew1) | exact HB.out)⟩⟩
  case round =>
    clear H'
    try clear p2
    try clear c3
    obtain ⟨x5_1, x9_1, rfl, HA, HK1, HO_5, HB⟩ := hrel
    cases gk with
    | zero => exact absurd HA.out (by simp [grammar_runs.l0])
    | succ k1 =>
      have H := HA.out
      clear HA
      simp only [grammar_runs.l0] at H
      by_cases c5 : x9_1 < a1
      · rw [if_pos c5] at H
        have c5b0 : decide (x9_1 < a1) = true := decide_eq_true c5
        clear c5
        by_cases c6 : 0 ≤ x9_1
        · rw [if_pos c6] at H
          have c6b0 : decide (0 ≤ x9_1) = true := decide_eq_true c6
          clear c6
          by_cases c7 : x9_1 < (x5_1.length : Int)
          · rw [if_pos c7] at H
            have c7b0 : decide (x9_1 < (x5_1.length : Int)) = true := decide_eq_true c7
            clear c7
            by_cases c8 : x5_1.length < 17592186044416
            · rw [if_pos c8] at H
              have LMc8 := Aside0.mk c8
              clear c8
              obtain ⟨y143, hy143⟩ : ∃ y_ : List Int, y_ = (x5_1 ++ [wrap64 (a0 * (rd x5_1 x9_1))]) := ⟨_, rfl⟩
              replace H : (grammar_runs.l0 k1 a0 y143 a1 (wrap64 (x9_1 + 1))) = some r := by first | (rw [hy143]; with_reducible exact H) | (have H2_ := (Option.bind_some _ _).symm.trans H; rw [hy143]; with_reducible exact H2_) | (have H2_ := (Option.bind_some _ _).symm.trans H; with_reducible exact H2_) | with_reducible exact H | (rw [hy143]; exact H) | exact H
              have Ny143 := Aside0.mk hy143
              clear hy143
              have H' := Aside0.mk H
              clear H
              obtain ⟨Ao9, co9, eo9⟩ := Kd.R_slice HO_5.out
              subst eo9
              have p142 : 0 ≤ (x9_1 : Int) := of_decide_eq_true (by first | (with_reducible assumption) | assumption)
              have q142 : x9_1 < (x5_1.length : Int) := of_decide_eq_true (by first | (with_reducible assumption) | assumption)
              obtain ⟨ad142, e142, hx142_0⟩ := Kd.at_int (Kd.R_reads' HO_5.out).2.2 x9_1 p142 q142
              cases e142
              replace p142 := eq_true p142
              replace q142 := eq_true q142
              go_wp2_with (first | ((with_reducible refine gate_builtin (b := .append) (xs := #[.tmp 12, .tmp 19]) rfl ?_); at_builtin; refine Kd.R_append (Kd.int .i64) (w0 := w) w.heap.size rfl (.tmp 12) (.tmp 19) 29 3 (.int .i64 0) 8 rfl Try.underlying29 info3 rfl (by decide) (by omega) (.slice (some ad142) x5_1.length co9) x5_1 (wrap64 (a0 * (rd x5_1 x9_1))) [.int .i64 (wrap64 (a0 * (rd x5_1 x9_1)))] (fun _ => True) (fun _ => False) rfl rfl ?aP (fun _ hk => hk.elim) ?aF ?aO ?aB ?aS ?aL ?_; (case aP => exact rfl); (case aB => exact (by repeat (first | (with_reducible first | exact HB.out | apply below_alloc | apply pw_below_drewN | apply below_drew1) | exact HB.out))); (case aF => exact (fun _ _ => trivial)); (case aO => exact (by (with_reducible repeat (first | apply Kd.R_alloc | apply Kd.R_drewN | apply Kd.R_drew)); exact HO_5.out)); (case aS => exact (below_size (by repeat (first | (with_reducible first | exact HB.out | apply below_alloc | apply pw_below_drewN | apply below_drew1) | exact HB.out)))); (case aL => have := LMc8.out; omega); intro v144 w10 ho hb hg hat; rw [← Ny143.out] at ho; have n0_ := Aside0.mk (hb); have n1_ := Aside0.mk (ho); clear HB; clear HO_5; have HB := n0_; have HO145 := n1_; clear n0_ n1_; clear ho hb hg hat))
              go_roundg k1
              case measure => have := HK1.out; omega
              case rel => exact ⟨(y143), (wrap64 (x9_1 + 1)), (by first | rfl | (simp; done) | (simp [*]; done)), H', ⟨by have := HK1.out; omega⟩, ⟨by (with_reducible repeat (first | apply Kd.R_alloc | apply Kd.R_drewN | apply Kd.R_drew)); exact HO145.out⟩, ⟨by repeat (first | (with_reducible first | exact HB.out | apply below_alloc | apply pw_below_drewN | apply below_drew1) | exact HB.out)⟩⟩
            · rw [if_neg c8] at H
              exact absurd H (by simp)
          · rw [if_neg c7] at H
            exact absurd H (by simp)
        · rw [if_neg c6] at H
          exact absurd H (by simp)
      · rw [if_neg c5] at H
        have c5b0 : decide (x9_1 < a1) = false := decide_eq_false c5
        clear c5
        obtain rfl := Option.some.inj H
        go_wp2
        go_ret
        exact ⟨_, by first | rfl | (simp [errW_none, errW_some] <;> rfl) | (simp [*, errW_none, errW_some] <;> rfl), by (with_reducible repeat (first | apply Kd.R_alloc | apply Kd.R_drewN | apply Kd.R_drew)); exact HO_5.out, by repeat (first | (with_reducible first | exact HB.out | apply below_alloc | apply pw_below_drewN | apply below_drew1) | exact HB.out)⟩

/-! ### grammar_Count: function 20 -/
def grammar_Count.l0 : Nat → Int → List Int → Int → Int → Option (Int × Int)
  | 0, _, _, _, _ => none
  | k + 1, x6, x21, x22, x23 => if x23 < x22 then (if 0 ≤ x23 then (if x23 < (x21.length : Int) then (grammar_Count.l0 k (wrap64 (x6 + (rd x21 x23))) x21 x22 (wrap64 (x23 + 1))) else (none)) else (none)) else (some (x6, 0))
def grammar_Count.f (k : Nat) (l0_0 : List Int) (l0_1 : List Int) (l0_2 : List Int) (a0_3 : Int) : Option (Int × Int) := (grammar_Insts.f l0_0 l0_1 l0_2 a0_3).bind fun bt147 => (if bt147.2 = 0 then ((grammar_runs.f k (bt147.1.length : Int) a0_3).bind fun t151 => (grammar_Count.l0 k 0 t151 (t151.length : Int) 0)) else (some (0, bt147.2)))
theorem grammar_Count.mono_l : ∀ k, (∀ y0 y1 y2 y3, LeO (grammar_Count.l0 k y0 y1 y2 y3) (grammar_Count.l0 (k + 1) y0 y1 y2 y3))
  | 0 => fun _ _ _ _ r h => by simp [grammar_Count.l0] at h
  | k + 1 => by
    have ih0 := grammar_Count.mono_l k
    · intro y0 y1 y2 y3
      unfold grammar_Count.l0
      repeat' first
      | (with_reducible exact ih0 _ _ _ _)
      | (with_reducible exact grammar_runs.mono _ _ _)
      | (with_reducible exact LeO.refl _)
      | (with_reducible exact LeO.none _)
      | (with_reducible refine LeO.ite ?_ ?_)
      | (with_reducible refine LeO.bind ?_ (fun _ => ?_))
      | exact ih0 _ _ _ _
      | exact grammar_runs.mono _ _ _
      | exact LeO.none _
      | refine LeO.ite ?_ ?_
      | refine LeO.bind ?_ (fun _ => ?_)
theorem grammar_Count.mono : ∀ a0 a1 a2 a3 k, LeO (grammar_Count.f k a0 a1 a2 a3) (grammar_Count.f (k + 1) a0 a1 a2 a3) := by
  intro a0 a1 a2 a3 k
  have ih0 := grammar_Count.mono_l k
  unfold grammar_Count.f
  repeat' first
      | (with_reducible exact ih0 _ _ _ _)
      | (with_reducible exact grammar_runs.mono _ _ _)
      | (with_reducible exact LeO.refl _)
      | (with_reducible exact LeO.none _)
      | (with_reducible refine LeO.ite ?_ ?_)
      | (with_reducible refine LeO.bind ?_ (fun _ => ?_))
      | exact ih0 _ _ _ _
      | exact grammar_runs.mono _ _ _
      | exact LeO.none _
      | refine LeO.ite ?_ ?_
      | refine LeO.bind ?_ (fun _ => ?_)
set_option maxHeartbeats 8000000 in
set_option maxRecDepth 100000 in
theorem grammar_Count.calls (k : Nat) (A0_0 : Option Addr) (c0_0 : Nat) (l0_0 : List Int) (A0_1 : Option Addr) (c0_1 : Nat) (l0_1 : List Int) (A0_2 : Option Addr) (c0_2 : Nat) (l0_2 : List Int) (a0_3 : Int) (r1 : Int) (r2 : Int) (w : World) (hr0_0 : Kd.C (Kd.int .i64) w A0_0 l0_0.length l0_0) (hc0_0 : l0_0.length ≤ c0_0) (hr0_1 : Kd.C (Kd.int .i64) w A0_1 l0_1.length l0_1) (hc0_1 : l0_1.length ≤ c0_1) (hr0_2 : Kd.C (Kd.int .i64) w A0_2 l0_2.length l0_2) (hc0_2 : l0_2.length ≤ c0_2) (h : grammar_Count.f k l0_0 l0_1 l0_2 a0_3 = some (r1, r2)) :
    Calls Try.prog 20 #[.agg #[.slice A0_0 l0_0.length c0_0, .slice A0_1 l0_1.length c0_1, .slice A0_2 l0_2.length c0_2, .int .i64 a0_3]] w fun e w' => e = .returned (.tuple #[.int .i64 r1, .int .i64 r2]) ∧ Below w.heap.size w w' := by
  have hu31 := Try.underlying31
  have HR0_0 := Aside0.mk hr0_0
  have HC0_0 := Aside0.mk hc0_0
  clear hr0_0 hc0_0
  have HR0_1 := Aside0.mk hr0_1
  have HC0_1 := Aside0.mk hc0_1
  clear hr0_1 hc0_1
  have HR0_2 := Aside0.mk hr0_2
  have HC0_2 := Aside0.mk hc0_2
  clear hr0_2 hc0_2
  have HB := Aside0.mk (Below.refl w.heap.size w)
  have H : ((grammar_Insts.f l0_0 l0_1 l0_2 a0_3).bind fun bt147 => (if bt147.2 = 0 then ((grammar_runs.f k (bt147.1.length : Int) a0_3).bind fun t151 => (grammar_Count.l0 k 0 t151 (t151.length : Int) 0)) else (some (0, bt147.2)))) = some (r1, r2) := h
  clear h
  replace H := Option.bind_eq_some_iff.mp H
  obtain ⟨⟨t147, t150⟩, A20, H⟩ := H
  replace H : (if t150 = 0 then ((grammar_runs.f k (t147.length : Int) a0_3).bind fun t151 => (grammar_Count.l0 k 0 t151 (t151.length : Int) 0)) else (some (0, t150))) = some (r1, r2) := H
  have A2 := Aside0.mk A20
  clear A20
  by_cases c3 : t150 = 0
  · rw [if_pos c3] at H
    have c3b0 : (t150 == 0) = true := beq_iff_eq.mpr c3
    have c3b1 : (t150 != 0) = false := bne_eq_false_iff_eq.mpr c3
    clear c3
    replace H := Option.bind_eq_some_iff.mp H
    obtain ⟨t151, A40, H⟩ := H
    replace H : (grammar_Count.l0 k 0 t151 (t151.length : Int) 0) = some (r1, r2) := H
    have A4 := Aside0.mk A40
    clear A40
    have H' := Aside0.mk H
    clear H
    go_enter Try.func20, Try.ntmps20
    go_wp2_with (first | ((with_reducible refine gate_dst (N := 1) rfl ?_); refine box_event ?hg (N := 1) ?hd (cs := #[.slice A0_0 l0_0.length c0_0, .slice A0_1 l0_1.length c0_1, .slice A0_2 l0_2.length c0_2, .int .i64 a0_3]) (t := 31) ?hr ?_; (case hd => rfl); (case hg => rfl); (case hr => first | (go_simp; done) | (go_simp; rfl)); intro gb146 hg w5 hbox hb; have n0_ := Aside0.mk (below_step (by repeat (first | (with_reducible first | exact HB.out | apply below_alloc | apply pw_below_drewN | apply below_drew1) | exact HB.out)) hb); have n1_ := Aside0.mk (hbox); have n2_ := Aside0.mk ((by rw [hg]; exact (below_size (by repeat (first | (with_reducible first | exact HB.out | apply below_alloc | apply pw_below_drewN | apply below_drew1) | exact HB.out))) : w.heap.size ≤ gb146)); have n3_ := Aside0.mk ((by rw [hg]; exact (below_size (by repeat (first | (with_reducible first | exact HB.out | apply below_alloc | apply pw_below_drewN | apply below_drew1) | exact HB.out))) : w.heap.size ≤ gb146)); clear HB; have HB := n0_; have BK146 := n1_; have GW146 := n2_; have GE146 := n3_; clear n0_ n1_ n2_ n3_; clear hb hbox hg; have hcz6_0 : w5.cell? ⟨gb146, 0, none⟩ = some (.slice A0_0 l0_0.length c0_0) := (blk_cell BK146.out 0).trans rfl; have hcz6_1 : w5.cell? ⟨gb146, 1, none⟩ = some (.slice A0_1 l0_1.length c0_1) := (blk_cell BK146.out 1).trans rfl; have hcz6_2 : w5.cell? ⟨gb146, 2, none⟩ = some (.slice A0_2 l0_2.length c0_2) := (blk_cell BK146.out 2).trans rfl; have hcz6_3 : w5.cell? ⟨gb146, 3, none⟩ = some (.int .i64 a0_3) := (blk_cell BK146.out 3).trans rfl; have hfz6_0 := blk_frozen BK146.out 0; have hfz6_1 := blk_frozen BK146.out 1; have hfz6_2 := blk_frozen BK146.out 2; have hfz6_3 := blk_frozen BK146.out 3) | ((with_reducible refine gate_callee (f := 19) rfl ?_); refine goesL_ (some 11) rfl rfl Try.func19 (by kernel_rfl) rfl #[.agg #[.slice A0_0 l0_0.length c0_0, .slice A0_1 l0_1.length c0_1, .slice A0_2 l0_2.length c0_2, .int .i64 a0_3]] rfl (by (try simp only [List.map_toArray, List.map_cons, List.map_nil]); first | done | rfl | (simp only [List.length_drop, List.length_take]; rfl)) ?_; (with_reducible refine (grammar_Insts.calls _ _ l0_0 _ _ l0_1 _ _ l0_2 a0_3 t147 t150 _ ?side1 ?side2 ?side3 ?side4 ?side5 ?side6 A2.out).mono ?_); (case side1 => repeat (first | exact (Kd.C_below HR0_0.out HB.out) | (with_reducible refine Kd.C_alloc ?_ _) | (with_reducible refine Kd.C_drewN ?_ _) | (with_reducible refine Kd.C_drew ?_))); (case side2 => exact HC0_0.out); (case side3 => repeat (first | exact (Kd.C_below HR0_1.out HB.out) | (with_reducible refine Kd.C_alloc ?_ _) | (with_reducible refine Kd.C_drewN ?_ _) | (with_reducible refine Kd.C_drew ?_))); (case side4 => exact HC0_1.out); (case side5 => repeat (first | exact (Kd.C_below HR0_2.out HB.out) | (with_reducible refine Kd.C_alloc ?_ _) | (with_reducible refine Kd.C_drewN ?_ _) | (with_reducible refine Kd.C_drew ?_))); (case side6 => exact HC0_2.out); rintro e w7 ⟨v148, rfl, ho0, hb⟩; refine ⟨_, rfl, ?_⟩; have n0_ := Aside0.mk (Kd.R_lower ho0 (below_size (by repeat (first | (with_reducible first | exact HB.out | apply below_alloc | apply pw_below_drewN | apply below_drew1 | refine below_set ?_ GE146.out) | exact HB.out)))); have n1_ := Aside0.mk (blk_below (g := gb146) (o := .cells #[.slice A0_0 l0_0.length c0_0, .slice A0_1 l0_1.length c0_1, .slice A0_2 l0_2.length c0_2, .int .i64 a0_3] 31 (0, 0)) (by (with_reducible repeat (first | refine blk_drewN ?_ _ | refine blk_drew ?_ | refine blk_alloc ?_ _)); exact BK146.out) hb); have n2_ := Aside0.mk (below_step (by repeat (first | (with_reducible first | exact HB.out | apply below_alloc | apply pw_below_drewN | apply below_drew1 | refine below_set ?_ GE146.out) | exact HB.out)) hb); clear BK146; clear HB; have HO149 := n0_; have BK146 := n1_; have HB := n2_; clear n0_ n1_ n2_; (try clear hb); (try clear hb2); (try clear hk); (try clear hi); (try clear ho0); obtain ⟨Ao8, co8, eo8⟩ := Kd.R_slice HO149.out; subst eo8; have hcz9_0 : w7.cell? ⟨gb146, 0, none⟩ = some (.slice A0_0 l0_0.length c0_0) := (blk_cell BK146.out 0).trans rfl; have hcz9_1 : w7.cell? ⟨gb146, 1, none⟩ = some (.slice A0_1 l0_1.length c0_1) := (blk_cell BK146.out 1).trans rfl; have hcz9_2 : w7.cell? ⟨gb146, 2, none⟩ = some (.slice A0_2 l0_2.length c0_2) := (blk_cell BK146.out 2).trans rfl; have hcz9_3 : w7.cell? ⟨gb146, 3, none⟩ = some (.int .i64 a0_3) := (blk_cell BK146.out 3).trans rfl; have hfz9_0 := blk_frozen BK146.out 0; have hfz9_1 := blk_frozen BK146.out 1; have hfz9_2 := blk_frozen BK146.out 2; have hfz9_3 := blk_frozen BK146.out 3) | ((with_reducible refine gate_callee (f := 36) rfl ?_); refine goesL_ (some 21) rfl rfl Try.func36 (by kernel_rfl) rfl #[.int .i64 (t147.length : Int), .int .i64 a0_3] rfl (by (try simp only [List.map_toArray, List.map_cons, List.map_nil]); first | done | rfl | (simp only [List.length_drop, List.length_take]; rfl)) ?_; (with_reducible refine (grammar_runs.calls k (t147.length : Int) a0_3 t151 _ A4.out).mono ?_); rintro e w10 ⟨v152, rfl, ho0, hb⟩; refine ⟨_, rfl, ?_⟩; have n0_ := Aside0.mk (Kd.R_below (by (with_reducible repeat (first | apply Kd.R_alloc | apply Kd.R_drewN | apply Kd.R_drew)); exact HO149.out) hb); have n1_ := Aside0.mk (Kd.R_lower ho0 (below_size (by repeat (first | (with_reducible first | exact HB.out | apply below_alloc | apply pw_below_drewN | apply below_drew1 | refine below_set ?_ GE146.out) | exact HB.out)))); have n2_ := Aside0.mk (blk_below (g := gb146) (o := .cells #[.slice A0_0 l0_0.length c0_0, .slice A0_1 l0_1.length c0_1, .slice A0_2 l0_2.length c0_2, .int .i64 a0_3] 31 (0, 0)) (by (with_reducible repeat (first | refine blk_drewN ?_ _ | refine blk_drew ?_ | refine blk_alloc ?_ _)); exact BK146.out) hb); have n3_ := Aside0.mk (below_step (by repeat (first | (with_reducible first | exact HB.out | apply below_alloc | apply pw_below_drewN | apply below_drew1 | refine below_set ?_ GE146.out) | exact HB.out)) hb); clear HO149; clear BK146; clear HB; have HO149 := n0_; have HO153 := n1_; have BK146 := n2_; have HB := n3_; clear n0_ n1_ n2_ n3_; (try clear hb); (try clear hb2); (try clear hk); (try clear hi); (try clear ho0); obtain ⟨Ao11, co11, eo11⟩ := Kd.R_slice HO153.out; subst eo11))
    go_loopg [6, 23] k (fun kq v6 v23 w' => ∃ (x6_1 : Int) (x23_1 : Int), v6 = .int .i64 x6_1 ∧ v23 = .int .i64 x23_1 ∧ Aside0 (grammar_Count.l0 kq x6_1 t151 (t151.length : Int) x23_1 = some (r1, r2)) ∧ Aside0 (kq ≤ k) ∧ Aside0 (Kd.R (Kd.int .i64) 3 w' w.heap.size (fun _ => True) (.slice Ao11 t151.length co11) t151) ∧ Aside0 (w'.heap[gb146]? = some (.cells #[(.slice A0_0 l0_0.length c0_0), (.slice A0_1 l0_1.length c0_1), (.slice A0_2 l0_2.length c0_2), .int .i64 a0_3] 31 (0, 0))) ∧ Aside0 (Below w.heap.size w w'))
    case atStart => exact ⟨(0), (0), (by first | rfl | (simp; done) | (simp [*]; done)), (by first | rfl | (simp; done) | (simp [*]; done)), H', ⟨Nat.le_refl _⟩, ⟨by (with_reducible repeat (first | apply Kd.R_alloc | apply Kd.R_drewN | apply Kd.R_drew)); exact HO153.out⟩, ⟨by (with_reducible repeat (first | refine blk_drewN ?_ _ | refine blk_drew ?_ | refine blk_alloc ?_ _)); exact BK146.out⟩, ⟨by repeat (first | (with_reducible first | exact HB.out | apply below_alloc | apply pw_below_drewN | apply below_drew1 | refine below_set ?_ GE146.out) | exact HB.out)⟩⟩
    case round =>
      clear H'
      try clear c1
      try clear c2
      try clear p2
      try clear c3
      try clear c3b0
      try clear c3b1
      try clear hcz6_0
      try clear hcz6_1
      try clear hcz6_2
      try clear hcz6_3
      try clear hcz9_0
      try clear hcz9_1
      try clear hcz9_2
      try clear hcz9_3
      try clear hfz6_0
      try clear hfz6_1
      try clear hfz6_2
      try clear hfz6_3
      try clear hfz9_0
      try clear hfz9_1
      try clear hfz9_2
      try clear hfz9_3
      obtain ⟨x6_1, x23_1, rfl, rfl, HA, HK1, HO_21, BK146, HB⟩ := hrel
      cases gk with
      | zero => exact absurd HA.out (by simp [grammar_Count.l0])
      | succ k1 =>
        have H := HA.out
        clear HA
        simp only [grammar_Count.l0] at H
        by_cases c12 : x23_1 < (t151.length : Int)
        · rw [if_pos c12] at H
          have c12b0 : decide (x23_1 < (t151.length : Int)) = true := decide_eq_true c12
          clear c12
          by_cases c13 : 0 ≤ x23_1
          · rw [if_pos c13] at H
            have c13b0 : decide (0 ≤ x23_1) = true := decide_eq_true c13
            clear c13
            by_cases c14 : x23_1 < (t151.length : Int)
            · rw [if_pos c14] at H
              have c14b0 : decide (x23_1 < (t151.length : Int)) = true := decide_eq_true c14
              clear c14
              have H' := Aside0.mk H
              clear H
              have p154 : 0 ≤ (x23_1 : Int) := of_decide_eq_true (by first | (with_reducible assumption) | assumption)
              have q154 : x23_1 < (t151.length : Int) := of_decide_eq_true (by first | (with_reducible assumption) | assumption)
              obtain ⟨ad154, e154, hx154_0⟩ := Kd.at_int (Kd.R_reads' HO_21.out).2.2 x23_1 p154 q154
              cases e154
              replace p154 := eq_true p154
              replace q154 := eq_true q154
              go_wp2
              go_roundg k1
              case measure => have := HK1.out; omega
              case rel => exact ⟨(wrap64 (x6_1 + (rd t151 x23_1))), (wrap64 (x23_1 + 1)), (by first | rfl | (simp; done) | (simp [*]; done)), (by first | rfl | (simp; done) | (simp [*]; done)), H', ⟨by have := HK1.out; omega⟩, ⟨by (with_reducible repeat (first | apply Kd.R_alloc | apply Kd.R_drewN | apply Kd.R_drew)); exact HO_21.out⟩, ⟨by (with_reducible repeat (first | refine blk_drewN ?_ _ | refine blk_drew ?_ | refine blk_alloc ?_ _)); exact BK146.out⟩, ⟨by repeat (first | (with_reducible first | exact HB.out | apply below_alloc | apply pw_below_drewN | apply below_drew1 | refine below_set ?_ GE146.out) | exact HB.out)⟩⟩
            · rw [if_neg c14] at H
              exact absurd H (by simp)
          · rw [if_neg c13] at H
            exact absurd H (by simp)
        · rw [if_neg c12] at H
          have c12b0 : decide (x23_1 < (t151.length : Int)) = false := decide_eq_false c12
          clear c12
          simp only [Option.some.injEq, Prod.mk.injEq] at H
          obtain ⟨rfl, rfl⟩ := H
          go_wp2
          go_ret2
          exact ⟨by first | rfl | (simp [errW_none, errW_some] <;> rfl) | (simp [*, errW_none, errW_some] <;> rfl), by repeat (first | (with_reducible first | exact HB.out | apply below_alloc | apply pw_below_drewN | apply below_drew1 | refine below_set ?_ GE146.out) | exact HB.out)⟩
  · rw [if_neg c3] at H
    have c3b0 : (t150 == 0) = false := beq_eq_false_iff_ne.mpr c3
    have c3b1 : (t150 != 0) = true := bne_iff_ne.mpr c3
    simp only [Option.some.injEq, Prod.mk.injEq] at H
    obtain ⟨rfl, rfl⟩ := H
    go_enter Try.func20, Try.ntmps20
    go_wp2_with (first | ((with_reducible refine gate_dst (N := 1) rfl ?_); refine box_event ?hg (N := 1) ?hd (cs := #[.slice A0_0 l0_0.length c0_0, .slice A0_1 l0_1.length c0_1, .slice A0_2 l0_2.length c0_2, .int .i64 a0_3]) (t := 31) ?hr ?_; (case hd => rfl); (case hg => rfl); (case hr => first | (go_simp; done) | (go_simp; rfl)); intro gb146 hg w15 hbox hb; have n0_ := Aside0.mk (below_step (by repeat (first | (with_reducible first | exact HB.out | apply below_alloc | apply pw_below_drewN | apply below_drew1) | exact HB.out)) hb); have n1_ := Aside0.mk (hbox); have n2_ := Aside0.mk ((by rw [hg]; exact (below_size (by repeat (first | (with_reducible first | exact HB.out | apply below_alloc | apply pw_below_drewN | apply below_drew1) | exact HB.out))) : w.heap.size ≤ gb146)); have n3_ := Aside0.mk ((by rw [hg]; exact (below_size (by repeat (first | (with_reducible first | exact HB.out | apply below_alloc | apply pw_below_drewN | apply below_drew1) | exact HB.out))) : w.heap.size ≤ gb146)); clear HB; have HB := n0_; have BK146 := n1_; have GW146 := n2_; have GE146 := n3_; clear n0_ n1_ n2_ n3_; clear hb hbox hg; have hcz16_0 : w15.cell? ⟨gb146, 0, none⟩ = some (.slice A0_0 l0_0.length c0_0) := (blk_cell BK146.out 0).trans rfl; have hcz16_1 : w15.cell? ⟨gb146, 1, none⟩ = some (.slice A0_1 l0_1.length c0_1) := (blk_cell BK146.out 1).trans rfl; have hcz16_2 : w15.cell? ⟨gb146, 2, none⟩ = some (.slice A0_2 l0_2.length c0_2) := (blk_cell BK146.out 2).trans rfl; have hcz16_3 : w15.cell? ⟨gb146, 3, none⟩ = some (.int .i64 a0_3) := (blk_cell BK146.out 3).trans rfl; have hfz16_0 := blk_frozen BK146.out 0; have hfz16_1 := blk_frozen BK146.out 1; have hfz16_2 := blk_frozen BK146.out 2; have hfz16_3 := blk_frozen BK146.out 3) | ((with_reducible refine gate_callee (f := 19) rfl ?_); refine goesL_ (some 11) rfl rfl Try.func19 (by kernel_rfl) rfl #[.agg #[.slice A0_0 l0_0.length c0_0, .slice A0_1 l0_1.length c0_1, .slice A0_2 l0_2.length c0_2, .int .i64 a0_3]] rfl (by (try simp only [List.map_toArray, List.map_cons, List.map_nil]); first | done | rfl | (simp only [List.length_drop, List.length_take]; rfl)) ?_; (with_reducible refine (grammar_Insts.calls _ _ l0_0 _ _ l0_1 _ _ l0_2 a0_3 t147 t150 _ ?side1 ?side2 ?side3 ?side4 ?side5 ?side6 A2.out).mono ?_); (case side1 => repeat (first | exact (Kd.C_below HR0_0.out HB.out) | (with_reducible refine Kd.C_alloc ?_ _) | (with_reducible refine Kd.C_drewN ?_ _) | (with_reducible refine Kd.C_drew ?_))); (case side2 => exact HC0_0.out); (case side3 => repeat (first | exact (Kd.C_below HR0_1.out HB.out) | (with_reducible refine Kd.C_alloc ?_ _) | (with_reducible refine Kd.C_drewN ?_ _) | (with_reducible refine Kd.C_drew ?_))); (case side4 => exact HC0_1.out); (case side5 => repeat (first | exact (Kd.C_below HR0_2.out HB.out) | (with_reducible refine Kd.C_alloc ?_ _) | (with_reducible refine Kd.C_drewN ?_ _) | (with_reducible refine Kd.C_drew ?_))); (case side6 => exact HC0_2.out); rintro e w17 ⟨v148, rfl, ho0, hb⟩; refine ⟨_, rfl, ?_⟩; have n0_ := Aside0.mk (Kd.R_lower ho0 (below_size (by repeat (first | (with_reducible first | exact HB.out | apply below_alloc | apply pw_below_drewN | apply below_drew1 | refine below_set ?_ GE146.out) | exact HB.out)))); have n1_ := Aside0.mk (blk_below (g := gb146) (o := .cells #[.slice A0_0 l0_0.length c0_0, .slice A0_1 l0_1.length c0_1, .slice A0_2 l0_2.length c0_2, .int .i64 a0_3] 31 (0, 0)) (by (with_reducible repeat (first | refine blk_drewN ?_ _ | refine blk_drew ?_ | refine blk_alloc ?_ _)); exact BK146.out) hb); have n2_ := Aside0.mk (below_step (by repeat (first | (with_reducible first | exact HB.out | apply below_alloc | apply pw_below_drewN | apply below_drew1 | refine below_set ?_ GE146.out) | exact HB.out)) hb); clear BK146; clear HB; have HO149 := n0_; have BK146 := n1_; have HB := n2_; clear n0_ n1_ n2_; (try clear hb); (try clear hb2); (try clear hk); (try clear hi); (try clear ho0)))
    go_ret2
    exact ⟨by first | rfl | (simp [errW_none, errW_some] <;> rfl) | (simp [*, errW_none, errW_some] <;> rfl), by repeat (first | (with_reducible first | exact HB.out | apply below_alloc | apply pw_below_drewN | apply below_drew1 | refine below_set ?_ GE146.out) | exact HB.out)⟩

end Go.Proofs.Ytcjbdfhofpfooaa.Q
