import Derived.Test.YtekenddkoahjgaaHZc
import Derived.Test.YtekenddkoahjgaaHQx5
namespace Go.Proofs.Ytekenddkoahjgaa.Q
open Go.RowKit Go.Proofs.YtekenddkoahjgaaW.PrintWords Go.Proofs.YtekenddkoahjgaaW.PrintLast Go.Proofs.YtekenddkoahjgaaW.PrintMore
attribute [local go_sem] max2_int min2_int max_two min_two max_three min_three max_four min_four
attribute [local go_sem] imax_u32 imax_u8 isg_u32 isg_u8
set_option linter.unusedVariables false
set_option linter.unusedSimpArgs false
theorem obs {α β : Type} (a : α) (f : α → Option β) : (some a).bind f = f a := by
 have h : ∀ o : Option α, o = some a → o.bind f = f a := by intro o ho; subst ho; rfl
 exact h _ rfl
def frm (op : Int) : Int := if 0 ≤ op ∧ op < 47 then (kGet op.toNat).1 else 0
theorem Form_eq (op : Int) : inst_Form.f op = some (frm op) := rfl
theorem frm_in : ∀ n : Fin 47, (kGet n.val).1 = 85 ∨ (kGet n.val).1 = 74 ∨ (kGet n.val).1 = 73 ∨ (kGet n.val).1 = 66 ∨ (kGet n.val).1 = 83 ∨ (kGet n.val).1 = 72 ∨ (kGet n.val).1 = 82 ∨ (kGet n.val).1 = 69 := by decide
theorem frm_cases (op : Int) : (¬ (0 ≤ op ∧ op < 47) ∧ frm op = 0) ∨ ((0 ≤ op ∧ op < 47) ∧ (frm op = 85 ∨ frm op = 74 ∨ frm op = 73 ∨ frm op = 66 ∨ frm op = 83 ∨ frm op = 72 ∨ frm op = 82 ∨ frm op = 69)) := by
 by_cases h : 0 ≤ op ∧ op < 47
 ·right
  obtain ⟨n, rfl⟩ := Int.eq_ofNat_of_zero_le h.1
  refine ⟨h, ?_⟩
  unfold frm
  rw [if_pos h, Int.toNat_natCast]
  exact frm_in ⟨n, by omega⟩
 ·left; refine ⟨h, ?_⟩; unfold frm; rw [if_neg h]
def hRd (f : Int) : Bool := decide (f = 85 ∨ f = 74 ∨ f = 73 ∨ f = 72 ∨ f = 82)
def hR1 (f : Int) : Bool := decide (f = 73 ∨ f = 72 ∨ f = 66 ∨ f = 83 ∨ f = 82)
def hR2 (f : Int) : Bool := decide (f = 66 ∨ f = 83 ∨ f = 82)
theorem has_eq (f : Int) (k : Nat) (hk : 4 ≤ k) : inst_has.f k f = some (hRd f, hR1 f, hR2 f) := by
 obtain ⟨k, rfl⟩ : ∃ m, k = m + 4 := ⟨k - 4, by omega⟩
 unfold hRd hR1 hR2 inst_has.f
 by_cases h1 : f = 85
 ·subst h1; rfl
 by_cases h2 : f = 74
 ·subst h2; rfl
 by_cases h3 : f = 73
 ·subst h3; rfl
 by_cases h4 : f = 72
 ·subst h4; rfl
 by_cases h5 : f = 66
 ·subst h5; rfl
 by_cases h6 : f = 83
 ·subst h6; rfl
 by_cases h7 : f = 82
 ·subst h7; rfl
 rw [if_neg h1, show (f == 74) = false from beq_eq_false_iff_ne.mpr h2]
 simp only [inst_has.j0, inst_has.j1, inst_has.j2]
 rw [if_neg (by decide), if_neg h3, show (f == 72) = false from beq_eq_false_iff_ne.mpr h4, if_neg (by decide), if_neg h5, show (f == 83) = false from beq_eq_false_iff_ne.mpr h6, if_neg (by decide), if_neg h7]
 simp [h1, h2, h3, h4, h5, h6, h7]
def numb (f m : Int) : Bool :=
 if f = 85 then decide (0 ≤ m ∧ m ≤ 1048575) else if f = 74 then decide (-1048576 ≤ m ∧ m ≤ 1048574 ∧ m % 2 = 0)
 else if f = 73 ∨ f = 83 then decide (-2048 ≤ m ∧ m ≤ 2047) else if f = 66 then decide (-4096 ≤ m ∧ m ≤ 4094 ∧ m % 2 = 0)
 else if f = 72 then decide (0 ≤ m ∧ m ≤ 31) else decide (m = 0)
theorem between_eq (a b c : Int) : inst_between.f a b c = some (decide (b ≤ a ∧ a ≤ c)) := by
 unfold inst_between.f
 by_cases h : a ≥ b
 ·rw [if_pos h]; congr 1; rw [decide_eq_decide]; omega
 ·rw [if_neg h, decide_eq_false (by omega)]
theorem tmod2 (m : Int) : (Int.tmod m 2 == 0) = decide (m % 2 = 0) := by
 have h : (Int.tmod m 2 = 0) ↔ (m % 2 = 0) := by
  rw [← Int.dvd_iff_tmod_eq_zero, Int.dvd_iff_emod_eq_zero]
 by_cases e : m % 2 = 0
 ·rw [decide_eq_true e, beq_iff_eq.mpr (h.mpr e)]
 ·rw [decide_eq_false e]; exact beq_eq_false_iff_ne.mpr (fun q => e (h.mp q))
theorem ite_and (p q : Prop) [Decidable p] [Decidable q] : (if decide p = true then some (decide q) else some false) = some (decide (p ∧ q)) := by
 by_cases h : p
 ·simp [h]
 ·simp [h]
theorem number_eq (f m : Int) (k : Nat) (hk : 1 ≤ k) : inst_number.f k f m = some (numb f m) := by
 obtain ⟨k, rfl⟩ : ∃ m, k = m + 1 := ⟨k - 1, by omega⟩
 unfold numb inst_number.f
 by_cases h1 : f = 85
 ·rw [if_pos h1, if_pos h1, between_eq, obs]
 rw [if_neg h1, if_neg h1]
 by_cases h2 : f = 74
 ·rw [if_pos h2, if_pos h2, between_eq, obs, tmod2, ite_and]; congr 1; rw [decide_eq_decide]; omega
 rw [if_neg h2, if_neg h2]
 simp only [inst_number.j0, between_eq, obs, tmod2, ite_and]
 by_cases h3 : f = 73
 ·subst h3; rfl
 by_cases h4 : f = 83
 ·subst h4; rfl
 rw [if_neg h3, show (f == 83) = false from beq_eq_false_iff_ne.mpr h4, if_neg (by decide), if_neg (show ¬ (f = 73 ∨ f = 83) by omega)]
 by_cases h5 : f = 66
 ·rw [if_pos h5, if_pos h5]; congr 1; rw [decide_eq_decide]; omega
 rw [if_neg h5, if_neg h5]
 by_cases h6 : f = 72
 ·rw [if_pos h6, if_pos h6]
 rw [if_neg h6, if_neg h6]
 rfl
def regv (b : Bool) (n : Int) : Bool := decide ((b = true ∧ 0 ≤ n ∧ n ≤ 31) ∨ n = 0)
theorem register_eq (b : Bool) (n : Int) : inst_register.f b n = some (regv b n) := by
 unfold inst_register.f regv
 cases b
 ·rw [if_neg (by decide)]; congr 1; by_cases h : n = 0 <;> simp [h]
 ·rw [if_pos rfl, between_eq, obs]
  by_cases h : 0 ≤ n ∧ n ≤ 31
  ·rw [if_pos (decide_eq_true h), decide_eq_true (Or.inl ⟨rfl, h⟩)]
  ·rw [if_neg (by rw [decide_eq_false h]; decide)]; congr 1
   by_cases h0 : n = 0
   ·omega
   ·rw [show (n == 0) = false from beq_eq_false_iff_ne.mpr h0, decide_eq_false (by omega)]
def rightv (a0 a1 a2 a3 a4 : Int) : Bool := decide (frm a0 ≠ 0) && (regv (hRd (frm a0)) a1 && (regv (hR1 (frm a0)) a2 && (regv (hR2 (frm a0)) a3 && numb (frm a0) a4)))
theorem Right_eq (a0 a1 a2 a3 a4 : Int) (k : Nat) (hk : 4 ≤ k) : inst_Right.f k a0 a1 a2 a3 a4 = some (rightv a0 a1 a2 a3 a4) := by
 unfold inst_Right.f rightv
 rw [Form_eq, obs, has_eq _ k hk, obs]
 by_cases h : frm a0 = 0
 ·rw [if_pos h, decide_eq_false (by simp [h])]; rfl
 rw [if_neg h, decide_eq_true h, register_eq, obs, register_eq, obs, register_eq, obs, number_eq _ _ k (by omega), obs]
 cases regv (hRd (frm a0)) a1 <;> cases regv (hR1 (frm a0)) a2 <;> cases regv (hR2 (frm a0)) a3 <;> rfl
theorem formC : Bl.FormC frm := fun op w => inst_Form.calls op (frm op) w rfl
def rgt (x : Bl.Ins) : Bool := rightv x.1 x.2.1 x.2.2.1 x.2.2.2.1 x.2.2.2.2
theorem rightC : Bl.RightC rgt := fun op rd a b m w => inst_Right.calls 4 op rd a b m (rgt (op, rd, a, b, m)) w (Right_eq _ _ _ _ _ 4 (Nat.le_refl _))
def castL (l : List Nat) : List Int := l.map (fun x : Nat => (x : Int))
theorem R_of_U {w : World} {base : Nat} {v : Value} {l : List Nat} (h : Bl.OwnU w base v l) : Kd.R (Kd.int .u32) 24 w base (fun _ => True) v (castL l) := by
 refine ⟨fun _ _ => trivial, l.map Bl.uc, ?_, ?_, fun j p hj => ?_⟩
 ·show w.ownsRow base _ 1 v (castL l).length _
  rw [castL, List.length_map]; exact h
 ·show (l.map Bl.uc).length = (castL l).length * 1
  simp [castL]
 ·rw [castL, List.getElem?_map] at hj
  obtain ⟨x, hx, rfl⟩ := Option.map_eq_some_iff.1 hj
  show ((l.map Bl.uc).drop (j * 1)).take 1 = [Value.int .u32 (x : Int)]
  have hlt : j < l.length := (List.getElem?_eq_some_iff.1 hx).1
  have hx' : l[j] = x := by rw [List.getElem?_eq_getElem hlt] at hx; exact Option.some.inj hx
  rw [Nat.mul_one, List.drop_eq_getElem_cons (by simpa using hlt), List.take_succ_cons, List.take_zero]
  simp [Bl.uc, hx']
theorem afterC : ∀ op rd u v m a w, Calls Try.prog 13 #[Bl.iv (op, rd, u, v, m), .int .u32 ((a : Nat) : Int)] w fun e w' => ∃ y, e = .returned y ∧ Bl.OwnU w' w.heap.size y (Bl.aftv frm rgt (op, rd, u, v, m) a) ∧ Below w.heap.size w w' :=
 fun op rd u v m a w => Bl.After_calls frm rgt formC rightC op rd u v m a w _ rfl
def blocks_After.f (a0_0 : Int) (a0_1 : Int) (a0_2 : Int) (a0_3 : Int) (a0_4 : Int) (a1 : Int) : Option (List Int) := if 0 ≤ a1 ∧ a1 < 4294967296 then some (castL (Bl.aftv frm rgt (a0_0, a0_1, a0_2, a0_3, a0_4) a1.toNat)) else none
theorem blocks_After.calls (a0_0 : Int) (a0_1 : Int) (a0_2 : Int) (a0_3 : Int) (a0_4 : Int) (a1 : Int) (r : List Int) (w : World) (h : blocks_After.f a0_0 a0_1 a0_2 a0_3 a0_4 a1 = some r) :
  Calls Try.prog 13 #[.agg #[.int .i64 a0_0, .int .i64 a0_1, .int .i64 a0_2, .int .i64 a0_3, .int .i64 a0_4], .int .u32 a1] w fun e w' => ∃ v0_ : Value, e = .returned (v0_) ∧ Kd.R (Kd.int .u32) 24 w' w.heap.size (fun _ => True) v0_ r ∧ Below w.heap.size w w' := by
 unfold blocks_After.f at h
 split at h
 ·rename_i hs
  obtain rfl := Option.some.inj h
  obtain ⟨n, rfl⟩ := Int.eq_ofNat_of_zero_le hs.1
  refine (afterC a0_0 a0_1 a0_2 a0_3 a0_4 n w).mono ?_
  rintro e w' ⟨v, rfl, hO, hb⟩
  exact ⟨v, rfl, R_of_U hO, hb⟩
 ·cases h
def blocks_Ends.f (k : Nat) (a0_0 : Int) (a0_1 : Int) (a0_2 : Int) (a0_3 : Int) (a0_4 : Int) : Option (Bool) := (inst_Right.f k a0_0 a0_1 a0_2 a0_3 a0_4).bind fun t352 => (if t352 = true then ((inst_Form.f a0_0).bind fun t353 => (if t353 = 66 then (some true) else (if a0_0 = 2 then (some true) else (if a0_0 = 3 then (some true) else (some (a0_0 == 46)))))) else (some true))
set_option maxHeartbeats 8000000 in
set_option maxRecDepth 100000 in
theorem blocks_Ends.calls (k : Nat) (a0_0 : Int) (a0_1 : Int) (a0_2 : Int) (a0_3 : Int) (a0_4 : Int) (r : Bool) (w : World) (h : blocks_Ends.f k a0_0 a0_1 a0_2 a0_3 a0_4 = some r) :
  Calls Try.prog 15 #[.agg #[.int .i64 a0_0, .int .i64 a0_1, .int .i64 a0_2, .int .i64 a0_3, .int .i64 a0_4]] w fun e w' => e = .returned (.bool r) ∧ Below w.heap.size w w' := by
 have hu23 := Try.underlying23
 have HB := zz (Below.refl w.heap.size w)
 have H : ((inst_Right.f k a0_0 a0_1 a0_2 a0_3 a0_4).bind fun t352 => (if t352 = true then ((inst_Form.f a0_0).bind fun t353 => (if t353 = 66 then (some true) else (if a0_0 = 2 then (some true) else (if a0_0 = 3 then (some true) else (some (a0_0 == 46)))))) else (some true))) = some r := h
 clear h
 replace H := Option.bind_eq_some_iff.mp H
 obtain ⟨t352, A20, H⟩ := H
 replace H : (if t352 = true then ((inst_Form.f a0_0).bind fun t353 => (if t353 = 66 then (some true) else (if a0_0 = 2 then (some true) else (if a0_0 = 3 then (some true) else (some (a0_0 == 46)))))) else (some true)) = some r := H
 have A2 := zz A20
 clear A20
 by_cases c3 : t352 = true
 ·subst c3
  have H1 : ((inst_Form.f a0_0).bind fun t353 => (if t353 = 66 then (some true) else (if a0_0 = 2 then (some true) else (if a0_0 = 3 then (some true) else (some (a0_0 == 46)))))) = some r := by rw [if_pos rfl] at H; exact H
  clear H
  have H := H1
  clear H1
  replace H := Option.bind_eq_some_iff.mp H
  obtain ⟨t353, A40, H⟩ := H
  replace H : (if t353 = 66 then (some true) else (if a0_0 = 2 then (some true) else (if a0_0 = 3 then (some true) else (some (a0_0 == 46))))) = some r := H
  have A4 := zz A40
  clear A40
  by_cases c5 : t353 = 66
  ·rw [if_pos c5] at H
   have c5b0 : (t353 == 66) = true := beq_iff_eq.mpr c5
   have c5b1 : (t353 != 66) = false := bne_eq_false_iff_eq.mpr c5
   clear c5
   obtain rfl := Option.some.inj H
   go_enter Try.func15, Try.ntmps15
   go_wp2_with (first | ((with_reducible refine gate_dst (N := 1) rfl ?_); refine box_event ?hg (N := 1) ?hd (cs := #[.int .i64 a0_0, .int .i64 a0_1, .int .i64 a0_2, .int .i64 a0_3, .int .i64 a0_4]) (t := 23) ?hr ?_; (case hd => rfl); (case hg => rfl); (case hr => first | (go_simp; done) | (go_simp; rfl)); intro gb351 hg w6 hbox hb; have n0_ := zz (below_step zzb hb); have n1_ := zz (hbox); have n2_ := zz ((zzn hg : w.heap.size ≤ gb351)); have n3_ := zz ((zzn hg : w.heap.size ≤ gb351)); clear HB; have HB := n0_; have BK351 := n1_; have GW351 := n2_; have GE351 := n3_; clear n0_ n1_ n2_ n3_; clear hb hbox hg; obtain ⟨hcz7_0, hcz7_1, hcz7_2, hcz7_3, hcz7_4⟩ := zzc5 BK351.out (.int .i64 a0_0) (.int .i64 a0_1) (.int .i64 a0_2) (.int .i64 a0_3) (.int .i64 a0_4); obtain ⟨hfz7_0, hfz7_1, hfz7_2, hfz7_3, hfz7_4⟩ := zzf5 BK351.out) | ((with_reducible refine gate_callee (f := 27) rfl ?_); refine goesL_ (some 4) rfl rfl Try.func27 (by kernel_rfl) rfl #[.agg #[.int .i64 a0_0, .int .i64 a0_1, .int .i64 a0_2, .int .i64 a0_3, .int .i64 a0_4]] rfl zza ?_; (with_reducible refine (inst_Right.calls k a0_0 a0_1 a0_2 a0_3 a0_4 true _ A2.out).mono ?_); rintro e w8 ⟨rfl, hb⟩; refine ⟨_, rfl, ?_⟩; have n0_ := zz (zzkb BK351.out hb); have n1_ := zz (below_step zzg hb); clear BK351; clear HB; have BK351 := n0_; have HB := n1_; clear n0_ n1_; (try clear hb); (try clear hb2); (try clear hk); (try clear hi); obtain ⟨hcz9_0, hcz9_1, hcz9_2, hcz9_3, hcz9_4⟩ := zzc5 BK351.out (.int .i64 a0_0) (.int .i64 a0_1) (.int .i64 a0_2) (.int .i64 a0_3) (.int .i64 a0_4); obtain ⟨hfz9_0, hfz9_1, hfz9_2, hfz9_3, hfz9_4⟩ := zzf5 BK351.out) | (go_at_call 26; (with_reducible refine (inst_Form.calls a0_0 t353 _ A4.out).mono ?_); rintro e w10 ⟨rfl, hb⟩; have n0_ := zz (zzkb BK351.out hb); have n1_ := zz (below_step zzg hb); clear BK351; clear HB; have BK351 := n0_; have HB := n1_; clear n0_ n1_; (try clear hb); (try clear hb2); (try clear hk); (try clear hi)))
   go_ret
   exact ⟨zze, zzg⟩
  ·rw [if_neg c5] at H
   have c5b0 : (t353 == 66) = false := beq_eq_false_iff_ne.mpr c5
   have c5b1 : (t353 != 66) = true := bne_iff_ne.mpr c5
   by_cases c11 : a0_0 = 2
   ·rw [if_pos c11] at H
    have c11b0 : (a0_0 == 2) = true := beq_iff_eq.mpr c11
    have c11b1 : (a0_0 != 2) = false := bne_eq_false_iff_eq.mpr c11
    clear c11
    obtain rfl := Option.some.inj H
    go_enter Try.func15, Try.ntmps15
    go_wp2_with (first | ((with_reducible refine gate_dst (N := 1) rfl ?_); refine box_event ?hg (N := 1) ?hd (cs := #[.int .i64 a0_0, .int .i64 a0_1, .int .i64 a0_2, .int .i64 a0_3, .int .i64 a0_4]) (t := 23) ?hr ?_; (case hd => rfl); (case hg => rfl); (case hr => first | (go_simp; done) | (go_simp; rfl)); intro gb351 hg w12 hbox hb; have n0_ := zz (below_step zzb hb); have n1_ := zz (hbox); have n2_ := zz ((zzn hg : w.heap.size ≤ gb351)); have n3_ := zz ((zzn hg : w.heap.size ≤ gb351)); clear HB; have HB := n0_; have BK351 := n1_; have GW351 := n2_; have GE351 := n3_; clear n0_ n1_ n2_ n3_; clear hb hbox hg; obtain ⟨hcz13_0, hcz13_1, hcz13_2, hcz13_3, hcz13_4⟩ := zzc5 BK351.out (.int .i64 a0_0) (.int .i64 a0_1) (.int .i64 a0_2) (.int .i64 a0_3) (.int .i64 a0_4); obtain ⟨hfz13_0, hfz13_1, hfz13_2, hfz13_3, hfz13_4⟩ := zzf5 BK351.out) | ((with_reducible refine gate_callee (f := 27) rfl ?_); refine goesL_ (some 4) rfl rfl Try.func27 (by kernel_rfl) rfl #[.agg #[.int .i64 a0_0, .int .i64 a0_1, .int .i64 a0_2, .int .i64 a0_3, .int .i64 a0_4]] rfl zza ?_; (with_reducible refine (inst_Right.calls k a0_0 a0_1 a0_2 a0_3 a0_4 true _ A2.out).mono ?_); rintro e w14 ⟨rfl, hb⟩; refine ⟨_, rfl, ?_⟩; have n0_ := zz (zzkb BK351.out hb); have n1_ := zz (below_step zzg hb); clear BK351; clear HB; have BK351 := n0_; have HB := n1_; clear n0_ n1_; (try clear hb); (try clear hb2); (try clear hk); (try clear hi); obtain ⟨hcz15_0, hcz15_1, hcz15_2, hcz15_3, hcz15_4⟩ := zzc5 BK351.out (.int .i64 a0_0) (.int .i64 a0_1) (.int .i64 a0_2) (.int .i64 a0_3) (.int .i64 a0_4); obtain ⟨hfz15_0, hfz15_1, hfz15_2, hfz15_3, hfz15_4⟩ := zzf5 BK351.out) | (go_at_call 26; (with_reducible refine (inst_Form.calls a0_0 t353 _ A4.out).mono ?_); rintro e w16 ⟨rfl, hb⟩; have n0_ := zz (zzkb BK351.out hb); have n1_ := zz (below_step zzg hb); clear BK351; clear HB; have BK351 := n0_; have HB := n1_; clear n0_ n1_; (try clear hb); (try clear hb2); (try clear hk); (try clear hi); obtain ⟨hcz17_0, hcz17_1, hcz17_2, hcz17_3, hcz17_4⟩ := zzc5 BK351.out (.int .i64 a0_0) (.int .i64 a0_1) (.int .i64 a0_2) (.int .i64 a0_3) (.int .i64 a0_4); obtain ⟨hfz17_0, hfz17_1, hfz17_2, hfz17_3, hfz17_4⟩ := zzf5 BK351.out))
    go_ret
    exact ⟨zze, zzg⟩
   ·rw [if_neg c11] at H
    have c11b0 : (a0_0 == 2) = false := beq_eq_false_iff_ne.mpr c11
    have c11b1 : (a0_0 != 2) = true := bne_iff_ne.mpr c11
    by_cases c18 : a0_0 = 3
    ·rw [if_pos c18] at H
     have c18b0 : (a0_0 == 3) = true := beq_iff_eq.mpr c18
     have c18b1 : (a0_0 != 3) = false := bne_eq_false_iff_eq.mpr c18
     clear c18
     obtain rfl := Option.some.inj H
     go_enter Try.func15, Try.ntmps15
     go_wp2_with (first | ((with_reducible refine gate_dst (N := 1) rfl ?_); refine box_event ?hg (N := 1) ?hd (cs := #[.int .i64 a0_0, .int .i64 a0_1, .int .i64 a0_2, .int .i64 a0_3, .int .i64 a0_4]) (t := 23) ?hr ?_; (case hd => rfl); (case hg => rfl); (case hr => first | (go_simp; done) | (go_simp; rfl)); intro gb351 hg w19 hbox hb; have n0_ := zz (below_step zzb hb); have n1_ := zz (hbox); have n2_ := zz ((zzn hg : w.heap.size ≤ gb351)); have n3_ := zz ((zzn hg : w.heap.size ≤ gb351)); clear HB; have HB := n0_; have BK351 := n1_; have GW351 := n2_; have GE351 := n3_; clear n0_ n1_ n2_ n3_; clear hb hbox hg; obtain ⟨hcz20_0, hcz20_1, hcz20_2, hcz20_3, hcz20_4⟩ := zzc5 BK351.out (.int .i64 a0_0) (.int .i64 a0_1) (.int .i64 a0_2) (.int .i64 a0_3) (.int .i64 a0_4); obtain ⟨hfz20_0, hfz20_1, hfz20_2, hfz20_3, hfz20_4⟩ := zzf5 BK351.out) | ((with_reducible refine gate_callee (f := 27) rfl ?_); refine goesL_ (some 4) rfl rfl Try.func27 (by kernel_rfl) rfl #[.agg #[.int .i64 a0_0, .int .i64 a0_1, .int .i64 a0_2, .int .i64 a0_3, .int .i64 a0_4]] rfl zza ?_; (with_reducible refine (inst_Right.calls k a0_0 a0_1 a0_2 a0_3 a0_4 true _ A2.out).mono ?_); rintro e w21 ⟨rfl, hb⟩; refine ⟨_, rfl, ?_⟩; have n0_ := zz (zzkb BK351.out hb); have n1_ := zz (below_step zzg hb); clear BK351; clear HB; have BK351 := n0_; have HB := n1_; clear n0_ n1_; (try clear hb); (try clear hb2); (try clear hk); (try clear hi); obtain ⟨hcz22_0, hcz22_1, hcz22_2, hcz22_3, hcz22_4⟩ := zzc5 BK351.out (.int .i64 a0_0) (.int .i64 a0_1) (.int .i64 a0_2) (.int .i64 a0_3) (.int .i64 a0_4); obtain ⟨hfz22_0, hfz22_1, hfz22_2, hfz22_3, hfz22_4⟩ := zzf5 BK351.out) | (go_at_call 26; (with_reducible refine (inst_Form.calls a0_0 t353 _ A4.out).mono ?_); rintro e w23 ⟨rfl, hb⟩; have n0_ := zz (zzkb BK351.out hb); have n1_ := zz (below_step zzg hb); clear BK351; clear HB; have BK351 := n0_; have HB := n1_; clear n0_ n1_; (try clear hb); (try clear hb2); (try clear hk); (try clear hi); obtain ⟨hcz24_0, hcz24_1, hcz24_2, hcz24_3, hcz24_4⟩ := zzc5 BK351.out (.int .i64 a0_0) (.int .i64 a0_1) (.int .i64 a0_2) (.int .i64 a0_3) (.int .i64 a0_4); obtain ⟨hfz24_0, hfz24_1, hfz24_2, hfz24_3, hfz24_4⟩ := zzf5 BK351.out))
     go_ret
     exact ⟨zze, zzg⟩
    ·rw [if_neg c18] at H
     have c18b0 : (a0_0 == 3) = false := beq_eq_false_iff_ne.mpr c18
     have c18b1 : (a0_0 != 3) = true := bne_iff_ne.mpr c18
     obtain rfl := Option.some.inj H
     go_enter Try.func15, Try.ntmps15
     go_wp2_with (first | ((with_reducible refine gate_dst (N := 1) rfl ?_); refine box_event ?hg (N := 1) ?hd (cs := #[.int .i64 a0_0, .int .i64 a0_1, .int .i64 a0_2, .int .i64 a0_3, .int .i64 a0_4]) (t := 23) ?hr ?_; (case hd => rfl); (case hg => rfl); (case hr => first | (go_simp; done) | (go_simp; rfl)); intro gb351 hg w25 hbox hb; have n0_ := zz (below_step zzb hb); have n1_ := zz (hbox); have n2_ := zz ((zzn hg : w.heap.size ≤ gb351)); have n3_ := zz ((zzn hg : w.heap.size ≤ gb351)); clear HB; have HB := n0_; have BK351 := n1_; have GW351 := n2_; have GE351 := n3_; clear n0_ n1_ n2_ n3_; clear hb hbox hg; obtain ⟨hcz26_0, hcz26_1, hcz26_2, hcz26_3, hcz26_4⟩ := zzc5 BK351.out (.int .i64 a0_0) (.int .i64 a0_1) (.int .i64 a0_2) (.int .i64 a0_3) (.int .i64 a0_4); obtain ⟨hfz26_0, hfz26_1, hfz26_2, hfz26_3, hfz26_4⟩ := zzf5 BK351.out) | ((with_reducible refine gate_callee (f := 27) rfl ?_); refine goesL_ (some 4) rfl rfl Try.func27 (by kernel_rfl) rfl #[.agg #[.int .i64 a0_0, .int .i64 a0_1, .int .i64 a0_2, .int .i64 a0_3, .int .i64 a0_4]] rfl zza ?_; (with_reducible refine (inst_Right.calls k a0_0 a0_1 a0_2 a0_3 a0_4 true _ A2.out).mono ?_); rintro e w27 ⟨rfl, hb⟩; refine ⟨_, rfl, ?_⟩; have n0_ := zz (zzkb BK351.out hb); have n1_ := zz (below_step zzg hb); clear BK351; clear HB; have BK351 := n0_; have HB := n1_; clear n0_ n1_; (try clear hb); (try clear hb2); (try clear hk); (try clear hi); obtain ⟨hcz28_0, hcz28_1, hcz28_2, hcz28_3, hcz28_4⟩ := zzc5 BK351.out (.int .i64 a0_0) (.int .i64 a0_1) (.int .i64 a0_2) (.int .i64 a0_3) (.int .i64 a0_4); obtain ⟨hfz28_0, hfz28_1, hfz28_2, hfz28_3, hfz28_4⟩ := zzf5 BK351.out) | (go_at_call 26; (with_reducible refine (inst_Form.calls a0_0 t353 _ A4.out).mono ?_); rintro e w29 ⟨rfl, hb⟩; have n0_ := zz (zzkb BK351.out hb); have n1_ := zz (below_step zzg hb); clear BK351; clear HB; have BK351 := n0_; have HB := n1_; clear n0_ n1_; (try clear hb); (try clear hb2); (try clear hk); (try clear hi); obtain ⟨hcz30_0, hcz30_1, hcz30_2, hcz30_3, hcz30_4⟩ := zzc5 BK351.out (.int .i64 a0_0) (.int .i64 a0_1) (.int .i64 a0_2) (.int .i64 a0_3) (.int .i64 a0_4); obtain ⟨hfz30_0, hfz30_1, hfz30_2, hfz30_3, hfz30_4⟩ := zzf5 BK351.out))
     go_ret
     exact ⟨zze, zzg⟩
 ·replace c3 := Bool.eq_false_iff.mpr c3
  subst c3
  have H1 : (some true) = some r := by rw [if_neg (show ¬ (false = true) by decide)] at H; exact H
  clear H
  have H := H1
  clear H1
  obtain rfl := Option.some.inj H
  go_enter Try.func15, Try.ntmps15
  go_wp2_with (first | ((with_reducible refine gate_dst (N := 1) rfl ?_); refine box_event ?hg (N := 1) ?hd (cs := #[.int .i64 a0_0, .int .i64 a0_1, .int .i64 a0_2, .int .i64 a0_3, .int .i64 a0_4]) (t := 23) ?hr ?_; (case hd => rfl); (case hg => rfl); (case hr => first | (go_simp; done) | (go_simp; rfl)); intro gb351 hg w31 hbox hb; have n0_ := zz (below_step zzb hb); have n1_ := zz (hbox); have n2_ := zz ((zzn hg : w.heap.size ≤ gb351)); have n3_ := zz ((zzn hg : w.heap.size ≤ gb351)); clear HB; have HB := n0_; have BK351 := n1_; have GW351 := n2_; have GE351 := n3_; clear n0_ n1_ n2_ n3_; clear hb hbox hg; obtain ⟨hcz32_0, hcz32_1, hcz32_2, hcz32_3, hcz32_4⟩ := zzc5 BK351.out (.int .i64 a0_0) (.int .i64 a0_1) (.int .i64 a0_2) (.int .i64 a0_3) (.int .i64 a0_4); obtain ⟨hfz32_0, hfz32_1, hfz32_2, hfz32_3, hfz32_4⟩ := zzf5 BK351.out) | ((with_reducible refine gate_callee (f := 27) rfl ?_); refine goesL_ (some 4) rfl rfl Try.func27 (by kernel_rfl) rfl #[.agg #[.int .i64 a0_0, .int .i64 a0_1, .int .i64 a0_2, .int .i64 a0_3, .int .i64 a0_4]] rfl zza ?_; (with_reducible refine (inst_Right.calls k a0_0 a0_1 a0_2 a0_3 a0_4 false _ A2.out).mono ?_); rintro e w33 ⟨rfl, hb⟩; refine ⟨_, rfl, ?_⟩; have n0_ := zz (zzkb BK351.out hb); have n1_ := zz (below_step zzg hb); clear BK351; clear HB; have BK351 := n0_; have HB := n1_; clear n0_ n1_; (try clear hb); (try clear hb2); (try clear hk); (try clear hi)))
  go_ret
  exact ⟨zze, zzg⟩
def word_Field.f (k : Nat) (a0 : Int) (a1 : Int) (a2 : Int) : Option (Int) := (word_may.f a1 a2).bind fun t116 => (if t116 = true then (if 0 ≤ a1 then ((word_mask.f k a2).bind fun t117 => (some (Go.bits .and .u32 (shr .u32 a0 a1) t117))) else (none)) else (some 0))
theorem word_Field.mono : ∀ a0 a1 a2 k, LeO (word_Field.f k a0 a1 a2) (word_Field.f (k + 1) a0 a1 a2) := by
 intro a0 a1 a2 k
 unfold word_Field.f
 repeat' first
   | (with_reducible exact word_mask.mono _ _)
   | (with_reducible exact LeO.refl _)
   | (with_reducible exact LeO.none _)
   | (with_reducible refine LeO.ite ?_ ?_)
   | (with_reducible refine LeO.bind ?_ (fun _ => ?_))
   | exact word_mask.mono _ _
   | exact LeO.none _
   | refine LeO.ite ?_ ?_
   | refine LeO.bind ?_ (fun _ => ?_)
set_option maxHeartbeats 8000000 in
set_option maxRecDepth 100000 in
theorem word_Field.calls (k : Nat) (a0 : Int) (a1 : Int) (a2 : Int) (r : Int) (w : World) (h : word_Field.f k a0 a1 a2 = some r) :
  Calls Try.prog 78 #[.int .u32 a0, .int .i64 a1, .int .i64 a2] w fun e w' => e = .returned (.int .u32 r) ∧ Drawn0 w w' := by
 have H : ((word_may.f a1 a2).bind fun t116 => (if t116 = true then (if 0 ≤ a1 then ((word_mask.f k a2).bind fun t117 => (some (Go.bits .and .u32 (shr .u32 a0 a1) t117))) else (none)) else (some 0))) = some r := h
 clear h
 replace H := Option.bind_eq_some_iff.mp H
 obtain ⟨t116, A40, H⟩ := H
 replace H : (if t116 = true then (if 0 ≤ a1 then ((word_mask.f k a2).bind fun t117 => (some (Go.bits .and .u32 (shr .u32 a0 a1) t117))) else (none)) else (some 0)) = some r := H
 have A4 := zz A40
 clear A40
 by_cases c5 : t116 = true
 ·subst c5
  have H1 : (if 0 ≤ a1 then ((word_mask.f k a2).bind fun t117 => (some (Go.bits .and .u32 (shr .u32 a0 a1) t117))) else (none)) = some r := by rw [if_pos rfl] at H; exact H
  clear H
  have H := H1
  clear H1
  by_cases c6 : 0 ≤ a1
  ·rw [if_pos c6] at H
   have c6b0 := eq_true c6
   have c6b1 : decide (0 ≤ a1) = true := decide_eq_true c6
   clear c6
   obtain ⟨ji7, hji7⟩ : ∃ j_ : Int, (shr .u32 a0 a1) = j_ := ⟨_, rfl⟩
   replace H : ((word_mask.f k a2).bind fun t117 => (some (Go.bits .and .u32 (ji7) t117))) = some r := by first | (rw [hji7] at H; exact H) | (simp only [hji7] at H ⊢; exact H)
   (try rw [hji7] at A4)
   have hji7_ : (a0 / 2 ^ min a1.toNat 32) = ji7 := hji7
   have hji7z : a1 ≤ 32 → (a0 / 2 ^ a1.toNat) = ji7 := shr_small hji7
   replace H := Option.bind_eq_some_iff.mp H
   obtain ⟨t117, A80, H⟩ := H
   replace H : (some (Go.bits .and .u32 (ji7) t117)) = some r := H
   have A8 := zz A80
   clear A80
   obtain rfl := Option.some.inj H
   go_enter Try.func78, Try.ntmps78
   go_wp2_with (first | (go_at_call 93; (with_reducible refine (word_may.calls a1 a2 true _ A4.out).mono ?_); rintro e w' ⟨rfl, ⟨nd, rfl⟩⟩; (try first | exact ⟨rfl, _, World.drewN_drewN _ _ _⟩ | exact ⟨rfl, _, Eq.trans (World.drewN_drewN _ _ _) (congrArg (World.drewN _) (Nat.add_assoc _ _ _))⟩)) | (go_at_call 94; (with_reducible refine (word_mask.calls k a2 t117 _ A8.out).mono ?_); rintro e w' ⟨rfl, ⟨nd, rfl⟩⟩; (try first | exact ⟨rfl, _, World.drewN_drewN _ _ _⟩ | exact ⟨rfl, _, Eq.trans (World.drewN_drewN _ _ _) (congrArg (World.drewN _) (Nat.add_assoc _ _ _))⟩)))
   repeat (go_quiet (first | (go_at_call 93; (with_reducible refine (word_may.calls a1 a2 true _ A4.out).mono ?_); rintro e w' ⟨rfl, ⟨nd, rfl⟩⟩; (try first | exact ⟨rfl, _, World.drewN_drewN _ _ _⟩ | exact ⟨rfl, _, Eq.trans (World.drewN_drewN _ _ _) (congrArg (World.drewN _) (Nat.add_assoc _ _ _))⟩)) | (go_at_call 94; (with_reducible refine (word_mask.calls k a2 t117 _ A8.out).mono ?_); rintro e w' ⟨rfl, ⟨nd, rfl⟩⟩; (try first | exact ⟨rfl, _, World.drewN_drewN _ _ _⟩ | exact ⟨rfl, _, Eq.trans (World.drewN_drewN _ _ _) (congrArg (World.drewN _) (Nat.add_assoc _ _ _))⟩))); try go_wp2_with (first | (go_at_call 93; (with_reducible refine (word_may.calls a1 a2 true _ A4.out).mono ?_); rintro e w' ⟨rfl, ⟨nd, rfl⟩⟩; (try first | exact ⟨rfl, _, World.drewN_drewN _ _ _⟩ | exact ⟨rfl, _, Eq.trans (World.drewN_drewN _ _ _) (congrArg (World.drewN _) (Nat.add_assoc _ _ _))⟩)) | (go_at_call 94; (with_reducible refine (word_mask.calls k a2 t117 _ A8.out).mono ?_); rintro e w' ⟨rfl, ⟨nd, rfl⟩⟩; (try first | exact ⟨rfl, _, World.drewN_drewN _ _ _⟩ | exact ⟨rfl, _, Eq.trans (World.drewN_drewN _ _ _) (congrArg (World.drewN _) (Nat.add_assoc _ _ _))⟩))))
   go_ret
   exact ⟨by first | rfl | (simp; done) | (simp only [← hji7] <;> (first | rfl | simp)) | (simp [*]; done), zzd⟩
  ·rw [if_neg c6] at H
   exact absurd H (by simp)
 ·replace c5 := Bool.eq_false_iff.mpr c5
  subst c5
  have H1 : (some 0) = some r := by rw [if_neg (show ¬ (false = true) by decide)] at H; exact H
  clear H
  have H := H1
  clear H1
  obtain rfl := Option.some.inj H
  go_enter Try.func78, Try.ntmps78
  go_wp2_with (first | (go_at_call 93; (with_reducible refine (word_may.calls a1 a2 false _ A4.out).mono ?_); rintro e w' ⟨rfl, ⟨nd, rfl⟩⟩; (try first | exact ⟨rfl, _, World.drewN_drewN _ _ _⟩ | exact ⟨rfl, _, Eq.trans (World.drewN_drewN _ _ _) (congrArg (World.drewN _) (Nat.add_assoc _ _ _))⟩)))
  repeat (go_quiet (first | (go_at_call 93; (with_reducible refine (word_may.calls a1 a2 false _ A4.out).mono ?_); rintro e w' ⟨rfl, ⟨nd, rfl⟩⟩; (try first | exact ⟨rfl, _, World.drewN_drewN _ _ _⟩ | exact ⟨rfl, _, Eq.trans (World.drewN_drewN _ _ _) (congrArg (World.drewN _) (Nat.add_assoc _ _ _))⟩))); try go_wp2_with (first | (go_at_call 93; (with_reducible refine (word_may.calls a1 a2 false _ A4.out).mono ?_); rintro e w' ⟨rfl, ⟨nd, rfl⟩⟩; (try first | exact ⟨rfl, _, World.drewN_drewN _ _ _⟩ | exact ⟨rfl, _, Eq.trans (World.drewN_drewN _ _ _) (congrArg (World.drewN _) (Nat.add_assoc _ _ _))⟩))))
  go_ret
  exact ⟨zzh, zzd⟩
mutual
def inst_tells.j0 : Nat → Int → Int → Bool → Int → Int → Int → Int → Option (Bool)
 | 0, _, _, _, _, _, _, _ => none
 | k + 1, x1, x6, x7, x119000, x119001, x119002, x119003 => if x7 = true then ((word_Field.f k x1 0 7).bind fun t119 => (some (t119 == x119001))) else (if x6 = 82 then (inst_tells.j1 k x1 x6 (x6 == 82) x119000 x119001 x119002 x119003) else (inst_tells.j1 k x1 x6 (x6 == 72) x119000 x119001 x119002 x119003))
def inst_tells.j1 : Nat → Int → Int → Bool → Int → Int → Int → Int → Option (Bool)
 | 0, _, _, _, _, _, _, _ => none
 | k + 1, x1, x6, x15, x119000, x119001, x119002, x119003 => if x15 = true then ((word_Field.f k x1 0 7).bind fun t120 => (if t120 = x119001 then ((word_Field.f k x1 12 3).bind fun t121 => (if t121 = x119002 then ((word_Field.f k x1 25 7).bind fun t122 => (some (t122 == x119003))) else (some false))) else (some false))) else (if x6 = 73 then (inst_tells.j2 k x1 (x6 == 73) x119000 x119001 x119002 x119003) else (if x6 = 83 then (inst_tells.j2 k x1 (x6 == 83) x119000 x119001 x119002 x119003) else (inst_tells.j2 k x1 (x6 == 66) x119000 x119001 x119002 x119003)))
def inst_tells.j2 : Nat → Int → Bool → Int → Int → Int → Int → Option (Bool)
 | 0, _, _, _, _, _, _ => none
 | k + 1, x1, x37, x119000, x119001, x119002, x119003 => if x37 = true then ((word_Field.f k x1 0 7).bind fun t123 => (if t123 = x119001 then ((word_Field.f k x1 12 3).bind fun t124 => (some (t124 == x119002))) else (some false))) else (some false)
end
def inst_tells.f (k : Nat) (a0_0 : Int) (a0_1 : Int) (a0_2 : Int) (a0_3 : Int) (a1 : Int) : Option (Bool) := if a0_0 = 85 then (inst_tells.j0 k a1 a0_0 (a0_0 == 85) a0_0 a0_1 a0_2 a0_3) else (inst_tells.j0 k a1 a0_0 (a0_0 == 74) a0_0 a0_1 a0_2 a0_3)
theorem inst_tells.mono_l : ∀ k, (∀ y0 y1 y2 y3 y4 y5 y6, LeO (inst_tells.j0 k y0 y1 y2 y3 y4 y5 y6) (inst_tells.j0 (k + 1) y0 y1 y2 y3 y4 y5 y6)) ∧ (∀ y0 y1 y2 y3 y4 y5 y6, LeO (inst_tells.j1 k y0 y1 y2 y3 y4 y5 y6) (inst_tells.j1 (k + 1) y0 y1 y2 y3 y4 y5 y6)) ∧ (∀ y0 y1 y2 y3 y4 y5, LeO (inst_tells.j2 k y0 y1 y2 y3 y4 y5) (inst_tells.j2 (k + 1) y0 y1 y2 y3 y4 y5))
 | 0 => ⟨fun _ _ _ _ _ _ _ r h => by simp [inst_tells.j0] at h, fun _ _ _ _ _ _ _ r h => by simp [inst_tells.j1] at h, fun _ _ _ _ _ _ r h => by simp [inst_tells.j2] at h⟩
 | k + 1 => by
  obtain ⟨ih0, ih1, ih2⟩ := inst_tells.mono_l k
  refine ⟨?_, ?_, ?_⟩
  ·intro y0 y1 y2 y3 y4 y5 y6
   unfold inst_tells.j0
   repeat' first
   | (with_reducible exact ih0 _ _ _ _ _ _ _)
   | (with_reducible exact ih1 _ _ _ _ _ _ _)
   | (with_reducible exact ih2 _ _ _ _ _ _)
   | (with_reducible exact word_Field.mono _ _ _ _)
   | (with_reducible exact LeO.refl _)
   | (with_reducible exact LeO.none _)
   | (with_reducible refine LeO.ite ?_ ?_)
   | (with_reducible refine LeO.bind ?_ (fun _ => ?_))
   | exact ih0 _ _ _ _ _ _ _
   | exact ih1 _ _ _ _ _ _ _
   | exact ih2 _ _ _ _ _ _
   | exact word_Field.mono _ _ _ _
   | exact LeO.none _
   | refine LeO.ite ?_ ?_
   | refine LeO.bind ?_ (fun _ => ?_)
  ·intro y0 y1 y2 y3 y4 y5 y6
   unfold inst_tells.j1
   repeat' first
   | (with_reducible exact ih0 _ _ _ _ _ _ _)
   | (with_reducible exact ih1 _ _ _ _ _ _ _)
   | (with_reducible exact ih2 _ _ _ _ _ _)
   | (with_reducible exact word_Field.mono _ _ _ _)
   | (with_reducible exact LeO.refl _)
   | (with_reducible exact LeO.none _)
   | (with_reducible refine LeO.ite ?_ ?_)
   | (with_reducible refine LeO.bind ?_ (fun _ => ?_))
   | exact ih0 _ _ _ _ _ _ _
   | exact ih1 _ _ _ _ _ _ _
   | exact ih2 _ _ _ _ _ _
   | exact word_Field.mono _ _ _ _
   | exact LeO.none _
   | refine LeO.ite ?_ ?_
   | refine LeO.bind ?_ (fun _ => ?_)
  ·intro y0 y1 y2 y3 y4 y5
   unfold inst_tells.j2
   repeat' first
   | (with_reducible exact ih0 _ _ _ _ _ _ _)
   | (with_reducible exact ih1 _ _ _ _ _ _ _)
   | (with_reducible exact ih2 _ _ _ _ _ _)
   | (with_reducible exact word_Field.mono _ _ _ _)
   | (with_reducible exact LeO.refl _)
   | (with_reducible exact LeO.none _)
   | (with_reducible refine LeO.ite ?_ ?_)
   | (with_reducible refine LeO.bind ?_ (fun _ => ?_))
   | exact ih0 _ _ _ _ _ _ _
   | exact ih1 _ _ _ _ _ _ _
   | exact ih2 _ _ _ _ _ _
   | exact word_Field.mono _ _ _ _
   | exact LeO.none _
   | refine LeO.ite ?_ ?_
   | refine LeO.bind ?_ (fun _ => ?_)
theorem inst_tells.mono : ∀ a0 a1 a2 a3 a4 k, LeO (inst_tells.f k a0 a1 a2 a3 a4) (inst_tells.f (k + 1) a0 a1 a2 a3 a4) := by
 intro a0 a1 a2 a3 a4 k
 obtain ⟨ih0, ih1, ih2⟩ := inst_tells.mono_l k
 unfold inst_tells.f
 repeat' first
   | (with_reducible exact ih0 _ _ _ _ _ _ _)
   | (with_reducible exact ih1 _ _ _ _ _ _ _)
   | (with_reducible exact ih2 _ _ _ _ _ _)
   | (with_reducible exact word_Field.mono _ _ _ _)
   | (with_reducible exact LeO.refl _)
   | (with_reducible exact LeO.none _)
   | (with_reducible refine LeO.ite ?_ ?_)
   | (with_reducible refine LeO.bind ?_ (fun _ => ?_))
   | exact ih0 _ _ _ _ _ _ _
   | exact ih1 _ _ _ _ _ _ _
   | exact ih2 _ _ _ _ _ _
   | exact word_Field.mono _ _ _ _
   | exact LeO.none _
   | refine LeO.ite ?_ ?_
   | refine LeO.bind ?_ (fun _ => ?_)
set_option maxHeartbeats 8000000 in
set_option maxRecDepth 100000 in
theorem inst_tells.calls (k : Nat) (a0_0 : Int) (a0_1 : Int) (a0_2 : Int) (a0_3 : Int) (a1 : Int) (r : Bool) (w : World) (h : inst_tells.f k a0_0 a0_1 a0_2 a0_3 a1 = some r) :
  Calls Try.prog 76 #[.agg #[.int .u8 a0_0, .int .u32 a0_1, .int .u32 a0_2, .int .u32 a0_3], .int .u32 a1] w fun e w' => e = .returned (.bool r) ∧ Below w.heap.size w w' := by
 have hu74 := Try.underlying74
 have HB := zz (Below.refl w.heap.size w)
 have H : (if a0_0 = 85 then (inst_tells.j0 k a1 a0_0 (a0_0 == 85) a0_0 a0_1 a0_2 a0_3) else (inst_tells.j0 k a1 a0_0 (a0_0 == 74) a0_0 a0_1 a0_2 a0_3)) = some r := h
 clear h
 have HC3 := zz H
 clear H
 go_enter Try.func76, Try.ntmps76
 go_upto_if 7 with (first | ((with_reducible refine gate_dst (N := 2) rfl ?_); refine box_event ?hg (N := 2) ?hd (cs := #[.int .u8 a0_0, .int .u32 a0_1, .int .u32 a0_2, .int .u32 a0_3]) (t := 74) ?hr ?_; (case hd => rfl); (case hg => rfl); (case hr => first | (go_simp; done) | (go_simp; rfl)); intro gb118 hg w4 hbox hb; have n0_ := zz (below_step zzb hb); have n1_ := zz (hbox); have n2_ := zz ((zzn hg : w.heap.size ≤ gb118)); have n3_ := zz ((zzn hg : w.heap.size ≤ gb118)); clear HB; have HB := n0_; have BK118 := n1_; have GW118 := n2_; have GE118 := n3_; clear n0_ n1_ n2_ n3_; clear hb hbox hg; obtain ⟨hcz5_0, hcz5_1, hcz5_2, hcz5_3⟩ := zzc4 BK118.out (.int .u8 a0_0) (.int .u32 a0_1) (.int .u32 a0_2) (.int .u32 a0_3); obtain ⟨hfz5_0, hfz5_1, hfz5_2, hfz5_3⟩ := zzf4 BK118.out))
 repeat (go_quiet (first | ((with_reducible refine gate_dst (N := 2) rfl ?_); refine box_event ?hg (N := 2) ?hd (cs := #[.int .u8 a0_0, .int .u32 a0_1, .int .u32 a0_2, .int .u32 a0_3]) (t := 74) ?hr ?_; (case hd => rfl); (case hg => rfl); (case hr => first | (go_simp; done) | (go_simp; rfl)); intro gb118 hg w4 hbox hb; have n0_ := zz (below_step zzb hb); have n1_ := zz (hbox); have n2_ := zz ((zzn hg : w.heap.size ≤ gb118)); have n3_ := zz ((zzn hg : w.heap.size ≤ gb118)); clear HB; have HB := n0_; have BK118 := n1_; have GW118 := n2_; have GE118 := n3_; clear n0_ n1_ n2_ n3_; clear hb hbox hg; obtain ⟨hcz5_0, hcz5_1, hcz5_2, hcz5_3⟩ := zzc4 BK118.out (.int .u8 a0_0) (.int .u32 a0_1) (.int .u32 a0_2) (.int .u32 a0_3); obtain ⟨hfz5_0, hfz5_1, hfz5_2, hfz5_3⟩ := zzf4 BK118.out)); go_upto_if 7 with (first | ((with_reducible refine gate_dst (N := 2) rfl ?_); refine box_event ?hg (N := 2) ?hd (cs := #[.int .u8 a0_0, .int .u32 a0_1, .int .u32 a0_2, .int .u32 a0_3]) (t := 74) ?hr ?_; (case hd => rfl); (case hg => rfl); (case hr => first | (go_simp; done) | (go_simp; rfl)); intro gb118 hg w4 hbox hb; have n0_ := zz (below_step zzb hb); have n1_ := zz (hbox); have n2_ := zz ((zzn hg : w.heap.size ≤ gb118)); have n3_ := zz ((zzn hg : w.heap.size ≤ gb118)); clear HB; have HB := n0_; have BK118 := n1_; have GW118 := n2_; have GE118 := n3_; clear n0_ n1_ n2_ n3_; clear hb hbox hg; obtain ⟨hcz5_0, hcz5_1, hcz5_2, hcz5_3⟩ := zzc4 BK118.out (.int .u8 a0_0) (.int .u32 a0_1) (.int .u32 a0_2) (.int .u32 a0_3); obtain ⟨hfz5_0, hfz5_1, hfz5_2, hfz5_3⟩ := zzf4 BK118.out)))
 (try simp only [Act.put, List.setIfInBounds_toArray, List.set_cons_zero, List.set_cons_succ])
 go_cut [7] (fun v7 wc => ∃ (kq : Nat) (x7_2 : Bool), v7 = .bool x7_2 ∧ Aside0 (inst_tells.j0 kq a1 a0_0 x7_2 a0_0 a0_1 a0_2 a0_3 = some r) ∧ Aside0 (kq ≤ k) ∧ Aside0 (wc.heap[gb118]? = some (.cells #[.int .u8 a0_0, .int .u32 a0_1, .int .u32 a0_2, .int .u32 a0_3] 74 (0, 0))) ∧ Aside0 (Below w.heap.size w wc))
 case first =>
  have H := HC3.out
  clear HC3
  by_cases c6 : a0_0 = 85
  ·rw [if_pos c6] at H
   have c6b0 : (a0_0 == 85) = true := beq_iff_eq.mpr c6
   have c6b1 : (a0_0 != 85) = false := bne_eq_false_iff_eq.mpr c6
   clear c6
   (first | rw [c6b0] | (simp only [i64_w, i32_w]; rw [c6b0]) | skip)
   have H' := zz H
   clear H
   go_wp2
   repeat (go_quiet (fail); try go_wp2)
   go_meet
   case rel => exact ⟨_, ((a0_0 == 85)), (zzh), H', ⟨by first | omega | exact Nat.le_refl _⟩, ⟨by refine zzk ?_; exact BK118.out⟩, ⟨zzg⟩⟩
  ·rw [if_neg c6] at H
   have c6b0 : (a0_0 == 85) = false := beq_eq_false_iff_ne.mpr c6
   have c6b1 : (a0_0 != 85) = true := bne_iff_ne.mpr c6
   (first | rw [c6b0] | (simp only [i64_w, i32_w]; rw [c6b0]) | skip)
   have H' := zz H
   clear H
   go_wp2
   repeat (go_quiet (fail); try go_wp2)
   go_meet
   case rel => exact ⟨_, ((a0_0 == 74)), (zzh), H', ⟨by first | omega | exact Nat.le_refl _⟩, ⟨by refine zzk ?_; exact BK118.out⟩, ⟨zzg⟩⟩
 case rest =>
  clear HC3
  try clear p2
  try clear c6
  try clear c6b0
  try clear c6b1
  try clear hcz5_0 hcz5_1 hcz5_2 hcz5_3
  try clear hfz5_0 hfz5_1 hfz5_2 hfz5_3
  obtain ⟨kq, x7_2, rfl, HA, HJ2, BK118, HB⟩ := hcut
  cases kq with
  | zero => exact absurd HA.out (by simp [inst_tells.j0])
  | succ kj2 =>
   have H := HA.out
   clear HA
   simp only [inst_tells.j0] at H
   by_cases c7 : x7_2 = true
   ·subst c7
    have H1 : ((word_Field.f kj2 a1 0 7).bind fun t119 => (some (t119 == a0_1))) = some r := by rw [if_pos rfl] at H; exact H
    clear H
    have H := H1
    clear H1
    replace H := Option.bind_eq_some_iff.mp H
    obtain ⟨t119, A80, H⟩ := H
    replace H : (some (t119 == a0_1)) = some r := H
    have A8 := zz A80
    clear A80
    obtain rfl := Option.some.inj H
    go_wp2_with (first | (go_at_call 78; (with_reducible refine (word_Field.calls kj2 a1 0 7 t119 _ A8.out).mono ?_); rintro e w' ⟨rfl, ⟨nd, rfl⟩⟩; (try first | exact ⟨rfl, _, World.drewN_drewN _ _ _⟩ | exact ⟨rfl, _, Eq.trans (World.drewN_drewN _ _ _) (congrArg (World.drewN _) (Nat.add_assoc _ _ _))⟩); obtain ⟨hcz9_0, hcz9_1, hcz9_2, hcz9_3⟩ := zzc4 BK118.out (.int .u8 a0_0) (.int .u32 a0_1) (.int .u32 a0_2) (.int .u32 a0_3); obtain ⟨hfz9_0, hfz9_1, hfz9_2, hfz9_3⟩ := zzf4 BK118.out))
    repeat (go_quiet (first | (go_at_call 78; (with_reducible refine (word_Field.calls kj2 a1 0 7 t119 _ A8.out).mono ?_); rintro e w' ⟨rfl, ⟨nd, rfl⟩⟩; (try first | exact ⟨rfl, _, World.drewN_drewN _ _ _⟩ | exact ⟨rfl, _, Eq.trans (World.drewN_drewN _ _ _) (congrArg (World.drewN _) (Nat.add_assoc _ _ _))⟩); obtain ⟨hcz9_0, hcz9_1, hcz9_2, hcz9_3⟩ := zzc4 BK118.out (.int .u8 a0_0) (.int .u32 a0_1) (.int .u32 a0_2) (.int .u32 a0_3); obtain ⟨hfz9_0, hfz9_1, hfz9_2, hfz9_3⟩ := zzf4 BK118.out)); try go_wp2_with (first | (go_at_call 78; (with_reducible refine (word_Field.calls kj2 a1 0 7 t119 _ A8.out).mono ?_); rintro e w' ⟨rfl, ⟨nd, rfl⟩⟩; (try first | exact ⟨rfl, _, World.drewN_drewN _ _ _⟩ | exact ⟨rfl, _, Eq.trans (World.drewN_drewN _ _ _) (congrArg (World.drewN _) (Nat.add_assoc _ _ _))⟩); obtain ⟨hcz9_0, hcz9_1, hcz9_2, hcz9_3⟩ := zzc4 BK118.out (.int .u8 a0_0) (.int .u32 a0_1) (.int .u32 a0_2) (.int .u32 a0_3); obtain ⟨hfz9_0, hfz9_1, hfz9_2, hfz9_3⟩ := zzf4 BK118.out)))
    go_ret
    exact ⟨zze, zzg⟩
   ·replace c7 := Bool.eq_false_iff.mpr c7
    subst c7
    have H1 : (if a0_0 = 82 then (inst_tells.j1 kj2 a1 a0_0 (a0_0 == 82) a0_0 a0_1 a0_2 a0_3) else (inst_tells.j1 kj2 a1 a0_0 (a0_0 == 72) a0_0 a0_1 a0_2 a0_3)) = some r := by rw [if_neg (show ¬ (false = true) by decide)] at H; exact H
    clear H
    have H := H1
    clear H1
    have HC10 := zz H
    clear H
    go_upto_if 15 with (fail)
    repeat (go_quiet (fail); go_upto_if 15 with (fail))
    go_cut [15] (fun v15 wc => ∃ (kq : Nat) (x15_9 : Bool), v15 = .bool x15_9 ∧ Aside0 (inst_tells.j1 kq a1 a0_0 x15_9 a0_0 a0_1 a0_2 a0_3 = some r) ∧ Aside0 (kq ≤ kj2) ∧ Aside0 (wc.heap[gb118]? = some (.cells #[.int .u8 a0_0, .int .u32 a0_1, .int .u32 a0_2, .int .u32 a0_3] 74 (0, 0))) ∧ Aside0 (Below w.heap.size w wc))
    case first =>
     have H := HC10.out
     clear HC10
     by_cases c11 : a0_0 = 82
     ·rw [if_pos c11] at H
      have c11b0 : (a0_0 == 82) = true := beq_iff_eq.mpr c11
      have c11b1 : (a0_0 != 82) = false := bne_eq_false_iff_eq.mpr c11
      clear c11
      (first | rw [c11b0] | (simp only [i64_w, i32_w]; rw [c11b0]) | skip)
      have H' := zz H
      clear H
      go_wp2
      repeat (go_quiet (fail); try go_wp2)
      go_meet
      case rel => exact ⟨_, ((a0_0 == 82)), (zzh), H', ⟨by have := HJ2.out; first | omega | exact Nat.le_refl _⟩, ⟨by refine zzk ?_; exact BK118.out⟩, ⟨zzg⟩⟩
     ·rw [if_neg c11] at H
      have c11b0 : (a0_0 == 82) = false := beq_eq_false_iff_ne.mpr c11
      have c11b1 : (a0_0 != 82) = true := bne_iff_ne.mpr c11
      (first | rw [c11b0] | (simp only [i64_w, i32_w]; rw [c11b0]) | skip)
      have H' := zz H
      clear H
      go_wp2
      repeat (go_quiet (fail); try go_wp2)
      go_meet
      case rel => exact ⟨_, ((a0_0 == 72)), (zzh), H', ⟨by have := HJ2.out; first | omega | exact Nat.le_refl _⟩, ⟨by refine zzk ?_; exact BK118.out⟩, ⟨zzg⟩⟩
    case rest =>
     clear HC10
     try clear c1
     try clear p2
     try clear c6
     try clear c6b0
     try clear c6b1
     try clear c7
     try clear c11
     try clear c11b0
     try clear c11b1
     try clear hcz5_0 hcz5_1 hcz5_2 hcz5_3
     try clear hcz9_0 hcz9_1 hcz9_2 hcz9_3
     try clear hfz5_0 hfz5_1 hfz5_2 hfz5_3
     try clear hfz9_0 hfz9_1 hfz9_2 hfz9_3
     try clear p2
     obtain ⟨kq, x15_9, rfl, HA, HJ9, BK118, HB⟩ := hcut
     cases kq with
     | zero => exact absurd HA.out (by simp [inst_tells.j1])
     | succ kj9 =>
      have H := HA.out
      clear HA
      simp only [inst_tells.j1] at H
      by_cases c12 : x15_9 = true
      ·subst c12
       have H1 : ((word_Field.f kj9 a1 0 7).bind fun t120 => (if t120 = a0_1 then ((word_Field.f kj9 a1 12 3).bind fun t121 => (if t121 = a0_2 then ((word_Field.f kj9 a1 25 7).bind fun t122 => (some (t122 == a0_3))) else (some false))) else (some false))) = some r := by rw [if_pos rfl] at H; exact H
       clear H
       have H := H1
       clear H1
       replace H := Option.bind_eq_some_iff.mp H
       obtain ⟨t120, A130, H⟩ := H
       replace H : (if t120 = a0_1 then ((word_Field.f kj9 a1 12 3).bind fun t121 => (if t121 = a0_2 then ((word_Field.f kj9 a1 25 7).bind fun t122 => (some (t122 == a0_3))) else (some false))) else (some false)) = some r := H
       have A13 := zz A130
       clear A130
       by_cases c14 : t120 = a0_1
       ·rw [if_pos c14] at H
        have c14b0 : (t120 == a0_1) = true := beq_iff_eq.mpr c14
        have c14b1 : (t120 != a0_1) = false := bne_eq_false_iff_eq.mpr c14
        clear c14
        replace H := Option.bind_eq_some_iff.mp H
        obtain ⟨t121, A150, H⟩ := H
        replace H : (if t121 = a0_2 then ((word_Field.f kj9 a1 25 7).bind fun t122 => (some (t122 == a0_3))) else (some false)) = some r := H
        have A15 := zz A150
        clear A150
        by_cases c16 : t121 = a0_2
        ·rw [if_pos c16] at H
         have c16b0 : (t121 == a0_2) = true := beq_iff_eq.mpr c16
         have c16b1 : (t121 != a0_2) = false := bne_eq_false_iff_eq.mpr c16
         clear c16
         replace H := Option.bind_eq_some_iff.mp H
         obtain ⟨t122, A170, H⟩ := H
         replace H : (some (t122 == a0_3)) = some r := H
         have A17 := zz A170
         clear A170
         obtain rfl := Option.some.inj H
         go_wp2_with (first | (go_at_call 78; (with_reducible refine (word_Field.calls kj9 a1 0 7 t120 _ A13.out).mono ?_); rintro e w' ⟨rfl, ⟨nd, rfl⟩⟩; (try first | exact ⟨rfl, _, World.drewN_drewN _ _ _⟩ | exact ⟨rfl, _, Eq.trans (World.drewN_drewN _ _ _) (congrArg (World.drewN _) (Nat.add_assoc _ _ _))⟩); obtain ⟨hcz18_0, hcz18_1, hcz18_2, hcz18_3⟩ := zzc4 BK118.out (.int .u8 a0_0) (.int .u32 a0_1) (.int .u32 a0_2) (.int .u32 a0_3); obtain ⟨hfz18_0, hfz18_1, hfz18_2, hfz18_3⟩ := zzf4 BK118.out) | (go_at_call 78; (with_reducible refine (word_Field.calls kj9 a1 12 3 t121 _ A15.out).mono ?_); rintro e w' ⟨rfl, ⟨nd, rfl⟩⟩; (try first | exact ⟨rfl, _, World.drewN_drewN _ _ _⟩ | exact ⟨rfl, _, Eq.trans (World.drewN_drewN _ _ _) (congrArg (World.drewN _) (Nat.add_assoc _ _ _))⟩)) | (go_at_call 78; (with_reducible refine (word_Field.calls kj9 a1 25 7 t122 _ A17.out).mono ?_); rintro e w' ⟨rfl, ⟨nd, rfl⟩⟩; (try first | exact ⟨rfl, _, World.drewN_drewN _ _ _⟩ | exact ⟨rfl, _, Eq.trans (World.drewN_drewN _ _ _) (congrArg (World.drewN _) (Nat.add_assoc _ _ _))⟩)))
         repeat (go_quiet (first | (go_at_call 78; (with_reducible refine (word_Field.calls kj9 a1 0 7 t120 _ A13.out).mono ?_); rintro e w' ⟨rfl, ⟨nd, rfl⟩⟩; (try first | exact ⟨rfl, _, World.drewN_drewN _ _ _⟩ | exact ⟨rfl, _, Eq.trans (World.drewN_drewN _ _ _) (congrArg (World.drewN _) (Nat.add_assoc _ _ _))⟩); obtain ⟨hcz18_0, hcz18_1, hcz18_2, hcz18_3⟩ := zzc4 BK118.out (.int .u8 a0_0) (.int .u32 a0_1) (.int .u32 a0_2) (.int .u32 a0_3); obtain ⟨hfz18_0, hfz18_1, hfz18_2, hfz18_3⟩ := zzf4 BK118.out) | (go_at_call 78; (with_reducible refine (word_Field.calls kj9 a1 12 3 t121 _ A15.out).mono ?_); rintro e w' ⟨rfl, ⟨nd, rfl⟩⟩; (try first | exact ⟨rfl, _, World.drewN_drewN _ _ _⟩ | exact ⟨rfl, _, Eq.trans (World.drewN_drewN _ _ _) (congrArg (World.drewN _) (Nat.add_assoc _ _ _))⟩)) | (go_at_call 78; (with_reducible refine (word_Field.calls kj9 a1 25 7 t122 _ A17.out).mono ?_); rintro e w' ⟨rfl, ⟨nd, rfl⟩⟩; (try first | exact ⟨rfl, _, World.drewN_drewN _ _ _⟩ | exact ⟨rfl, _, Eq.trans (World.drewN_drewN _ _ _) (congrArg (World.drewN _) (Nat.add_assoc _ _ _))⟩))); try go_wp2_with (first | (go_at_call 78; (with_reducible refine (word_Field.calls kj9 a1 0 7 t120 _ A13.out).mono ?_); rintro e w' ⟨rfl, ⟨nd, rfl⟩⟩; (try first | exact ⟨rfl, _, World.drewN_drewN _ _ _⟩ | exact ⟨rfl, _, Eq.trans (World.drewN_drewN _ _ _) (congrArg (World.drewN _) (Nat.add_assoc _ _ _))⟩); obtain ⟨hcz18_0, hcz18_1, hcz18_2, hcz18_3⟩ := zzc4 BK118.out (.int .u8 a0_0) (.int .u32 a0_1) (.int .u32 a0_2) (.int .u32 a0_3); obtain ⟨hfz18_0, hfz18_1, hfz18_2, hfz18_3⟩ := zzf4 BK118.out) | (go_at_call 78; (with_reducible refine (word_Field.calls kj9 a1 12 3 t121 _ A15.out).mono ?_); rintro e w' ⟨rfl, ⟨nd, rfl⟩⟩; (try first | exact ⟨rfl, _, World.drewN_drewN _ _ _⟩ | exact ⟨rfl, _, Eq.trans (World.drewN_drewN _ _ _) (congrArg (World.drewN _) (Nat.add_assoc _ _ _))⟩)) | (go_at_call 78; (with_reducible refine (word_Field.calls kj9 a1 25 7 t122 _ A17.out).mono ?_); rintro e w' ⟨rfl, ⟨nd, rfl⟩⟩; (try first | exact ⟨rfl, _, World.drewN_drewN _ _ _⟩ | exact ⟨rfl, _, Eq.trans (World.drewN_drewN _ _ _) (congrArg (World.drewN _) (Nat.add_assoc _ _ _))⟩))))
         go_ret
         exact ⟨zze, zzg⟩
        ·rw [if_neg c16] at H
         have c16b0 : (t121 == a0_2) = false := beq_eq_false_iff_ne.mpr c16
         have c16b1 : (t121 != a0_2) = true := bne_iff_ne.mpr c16
         obtain rfl := Option.some.inj H
         go_wp2_with (first | (go_at_call 78; (with_reducible refine (word_Field.calls kj9 a1 0 7 t120 _ A13.out).mono ?_); rintro e w' ⟨rfl, ⟨nd, rfl⟩⟩; (try first | exact ⟨rfl, _, World.drewN_drewN _ _ _⟩ | exact ⟨rfl, _, Eq.trans (World.drewN_drewN _ _ _) (congrArg (World.drewN _) (Nat.add_assoc _ _ _))⟩); obtain ⟨hcz19_0, hcz19_1, hcz19_2, hcz19_3⟩ := zzc4 BK118.out (.int .u8 a0_0) (.int .u32 a0_1) (.int .u32 a0_2) (.int .u32 a0_3); obtain ⟨hfz19_0, hfz19_1, hfz19_2, hfz19_3⟩ := zzf4 BK118.out) | (go_at_call 78; (with_reducible refine (word_Field.calls kj9 a1 12 3 t121 _ A15.out).mono ?_); rintro e w' ⟨rfl, ⟨nd, rfl⟩⟩; (try first | exact ⟨rfl, _, World.drewN_drewN _ _ _⟩ | exact ⟨rfl, _, Eq.trans (World.drewN_drewN _ _ _) (congrArg (World.drewN _) (Nat.add_assoc _ _ _))⟩)))
         repeat (go_quiet (first | (go_at_call 78; (with_reducible refine (word_Field.calls kj9 a1 0 7 t120 _ A13.out).mono ?_); rintro e w' ⟨rfl, ⟨nd, rfl⟩⟩; (try first | exact ⟨rfl, _, World.drewN_drewN _ _ _⟩ | exact ⟨rfl, _, Eq.trans (World.drewN_drewN _ _ _) (congrArg (World.drewN _) (Nat.add_assoc _ _ _))⟩); obtain ⟨hcz19_0, hcz19_1, hcz19_2, hcz19_3⟩ := zzc4 BK118.out (.int .u8 a0_0) (.int .u32 a0_1) (.int .u32 a0_2) (.int .u32 a0_3); obtain ⟨hfz19_0, hfz19_1, hfz19_2, hfz19_3⟩ := zzf4 BK118.out) | (go_at_call 78; (with_reducible refine (word_Field.calls kj9 a1 12 3 t121 _ A15.out).mono ?_); rintro e w' ⟨rfl, ⟨nd, rfl⟩⟩; (try first | exact ⟨rfl, _, World.drewN_drewN _ _ _⟩ | exact ⟨rfl, _, Eq.trans (World.drewN_drewN _ _ _) (congrArg (World.drewN _) (Nat.add_assoc _ _ _))⟩))); try go_wp2_with (first | (go_at_call 78; (with_reducible refine (word_Field.calls kj9 a1 0 7 t120 _ A13.out).mono ?_); rintro e w' ⟨rfl, ⟨nd, rfl⟩⟩; (try first | exact ⟨rfl, _, World.drewN_drewN _ _ _⟩ | exact ⟨rfl, _, Eq.trans (World.drewN_drewN _ _ _) (congrArg (World.drewN _) (Nat.add_assoc _ _ _))⟩); obtain ⟨hcz19_0, hcz19_1, hcz19_2, hcz19_3⟩ := zzc4 BK118.out (.int .u8 a0_0) (.int .u32 a0_1) (.int .u32 a0_2) (.int .u32 a0_3); obtain ⟨hfz19_0, hfz19_1, hfz19_2, hfz19_3⟩ := zzf4 BK118.out) | (go_at_call 78; (with_reducible refine (word_Field.calls kj9 a1 12 3 t121 _ A15.out).mono ?_); rintro e w' ⟨rfl, ⟨nd, rfl⟩⟩; (try first | exact ⟨rfl, _, World.drewN_drewN _ _ _⟩ | exact ⟨rfl, _, Eq.trans (World.drewN_drewN _ _ _) (congrArg (World.drewN _) (Nat.add_assoc _ _ _))⟩))))
         go_ret
         exact ⟨zze, zzg⟩
       ·rw [if_neg c14] at H
        have c14b0 : (t120 == a0_1) = false := beq_eq_false_iff_ne.mpr c14
        have c14b1 : (t120 != a0_1) = true := bne_iff_ne.mpr c14
        obtain rfl := Option.some.inj H
        go_wp2_with (first | (go_at_call 78; (with_reducible refine (word_Field.calls kj9 a1 0 7 t120 _ A13.out).mono ?_); rintro e w' ⟨rfl, ⟨nd, rfl⟩⟩; (try first | exact ⟨rfl, _, World.drewN_drewN _ _ _⟩ | exact ⟨rfl, _, Eq.trans (World.drewN_drewN _ _ _) (congrArg (World.drewN _) (Nat.add_assoc _ _ _))⟩); obtain ⟨hcz20_0, hcz20_1, hcz20_2, hcz20_3⟩ := zzc4 BK118.out (.int .u8 a0_0) (.int .u32 a0_1) (.int .u32 a0_2) (.int .u32 a0_3); obtain ⟨hfz20_0, hfz20_1, hfz20_2, hfz20_3⟩ := zzf4 BK118.out))
        repeat (go_quiet (first | (go_at_call 78; (with_reducible refine (word_Field.calls kj9 a1 0 7 t120 _ A13.out).mono ?_); rintro e w' ⟨rfl, ⟨nd, rfl⟩⟩; (try first | exact ⟨rfl, _, World.drewN_drewN _ _ _⟩ | exact ⟨rfl, _, Eq.trans (World.drewN_drewN _ _ _) (congrArg (World.drewN _) (Nat.add_assoc _ _ _))⟩); obtain ⟨hcz20_0, hcz20_1, hcz20_2, hcz20_3⟩ := zzc4 BK118.out (.int .u8 a0_0) (.int .u32 a0_1) (.int .u32 a0_2) (.int .u32 a0_3); obtain ⟨hfz20_0, hfz20_1, hfz20_2, hfz20_3⟩ := zzf4 BK118.out)); try go_wp2_with (first | (go_at_call 78; (with_reducible refine (word_Field.calls kj9 a1 0 7 t120 _ A13.out).mono ?_); rintro e w' ⟨rfl, ⟨nd, rfl⟩⟩; (try first | exact ⟨rfl, _, World.drewN_drewN _ _ _⟩ | exact ⟨rfl, _, Eq.trans (World.drewN_drewN _ _ _) (congrArg (World.drewN _) (Nat.add_assoc _ _ _))⟩); obtain ⟨hcz20_0, hcz20_1, hcz20_2, hcz20_3⟩ := zzc4 BK118.out (.int .u8 a0_0) (.int .u32 a0_1) (.int .u32 a0_2) (.int .u32 a0_3); obtain ⟨hfz20_0, hfz20_1, hfz20_2, hfz20_3⟩ := zzf4 BK118.out)))
        go_ret
        exact ⟨zze, zzg⟩
      ·replace c12 := Bool.eq_false_iff.mpr c12
       subst c12
       have H1 : (if a0_0 = 73 then (inst_tells.j2 kj9 a1 (a0_0 == 73) a0_0 a0_1 a0_2 a0_3) else (if a0_0 = 83 then (inst_tells.j2 kj9 a1 (a0_0 == 83) a0_0 a0_1 a0_2 a0_3) else (inst_tells.j2 kj9 a1 (a0_0 == 66) a0_0 a0_1 a0_2 a0_3))) = some r := by rw [if_neg (show ¬ (false = true) by decide)] at H; exact H
       clear H
       have H := H1
       clear H1
       have HC21 := zz H
       clear H
       go_upto_if 37 with (fail)
       repeat (go_quiet (fail); go_upto_if 37 with (fail))
       go_cut [37] (fun v37 wc => ∃ (kq : Nat) (x37_20 : Bool), v37 = .bool x37_20 ∧ Aside0 (inst_tells.j2 kq a1 x37_20 a0_0 a0_1 a0_2 a0_3 = some r) ∧ Aside0 (kq ≤ kj9) ∧ Aside0 (wc.heap[gb118]? = some (.cells #[.int .u8 a0_0, .int .u32 a0_1, .int .u32 a0_2, .int .u32 a0_3] 74 (0, 0))) ∧ Aside0 (Below w.heap.size w wc))
       case first =>
        have H := HC21.out
        clear HC21
        by_cases c22 : a0_0 = 73
        ·rw [if_pos c22] at H
         have c22b0 : (a0_0 == 73) = true := beq_iff_eq.mpr c22
         have c22b1 : (a0_0 != 73) = false := bne_eq_false_iff_eq.mpr c22
         clear c22
         (first | rw [c22b0] | (simp only [i64_w, i32_w]; rw [c22b0]) | skip)
         have H' := zz H
         clear H
         go_wp2
         repeat (go_quiet (fail); try go_wp2)
         go_meet
         case rel => exact ⟨_, ((a0_0 == 73)), (zzh), H', ⟨by have := HJ2.out; have := HJ9.out; first | omega | exact Nat.le_refl _⟩, ⟨by refine zzk ?_; exact BK118.out⟩, ⟨zzg⟩⟩
        ·rw [if_neg c22] at H
         have c22b0 : (a0_0 == 73) = false := beq_eq_false_iff_ne.mpr c22
         have c22b1 : (a0_0 != 73) = true := bne_iff_ne.mpr c22
         (first | rw [c22b0] | (simp only [i64_w, i32_w]; rw [c22b0]) | skip)
         by_cases c23 : a0_0 = 83
         ·rw [if_pos c23] at H
          have c23b0 : (a0_0 == 83) = true := beq_iff_eq.mpr c23
          have c23b1 : (a0_0 != 83) = false := bne_eq_false_iff_eq.mpr c23
          clear c23
          have H' := zz H
          clear H
          go_wp2
          repeat (go_quiet (fail); try go_wp2)
          go_meet
          case rel => exact ⟨_, ((a0_0 == 83)), (zzh), H', ⟨by have := HJ2.out; have := HJ9.out; first | omega | exact Nat.le_refl _⟩, ⟨by refine zzk ?_; exact BK118.out⟩, ⟨zzg⟩⟩
         ·rw [if_neg c23] at H
          have c23b0 : (a0_0 == 83) = false := beq_eq_false_iff_ne.mpr c23
          have c23b1 : (a0_0 != 83) = true := bne_iff_ne.mpr c23
          have H' := zz H
          clear H
          go_wp2
          repeat (go_quiet (fail); try go_wp2)
          go_meet
          case rel => exact ⟨_, ((a0_0 == 66)), (zzh), H', ⟨by have := HJ2.out; have := HJ9.out; first | omega | exact Nat.le_refl _⟩, ⟨by refine zzk ?_; exact BK118.out⟩, ⟨zzg⟩⟩
       case rest =>
        clear HC21
        try clear c1
        try clear c2
        try clear p2
        try clear c6
        try clear c6b0
        try clear c6b1
        try clear c7
        try clear c11
        try clear c11b0
        try clear c11b1
        try clear c12
        try clear c14
        try clear c14b0
        try clear c14b1
        try clear c16
        try clear c16b0
        try clear c16b1
        try clear c22
        try clear c22b0
        try clear c22b1
        try clear c23
        try clear c23b0
        try clear c23b1
        try clear hcz18_0 hcz18_1 hcz18_2 hcz18_3
        try clear hcz19_0 hcz19_1 hcz19_2 hcz19_3
        try clear hcz20_0 hcz20_1 hcz20_2 hcz20_3
        try clear hcz5_0 hcz5_1 hcz5_2 hcz5_3
        try clear hcz9_0 hcz9_1 hcz9_2 hcz9_3
        try clear hfz18_0 hfz18_1 hfz18_2 hfz18_3
        try clear hfz19_0 hfz19_1 hfz19_2 hfz19_3
        try clear hfz20_0 hfz20_1 hfz20_2 hfz20_3
        try clear hfz5_0 hfz5_1 hfz5_2 hfz5_3
        try clear hfz9_0 hfz9_1 hfz9_2 hfz9_3
        try clear p2
        obtain ⟨kq, x37_20, rfl, HA, HJ20, BK118, HB⟩ := hcut
        cases kq with
        | zero => exact absurd HA.out (by simp [inst_tells.j2])
        | succ kj20 =>
         have H := HA.out
         clear HA
         simp only [inst_tells.j2] at H
         by_cases c24 : x37_20 = true
         ·subst c24
          have H1 : ((word_Field.f kj20 a1 0 7).bind fun t123 => (if t123 = a0_1 then ((word_Field.f kj20 a1 12 3).bind fun t124 => (some (t124 == a0_2))) else (some false))) = some r := by rw [if_pos rfl] at H; exact H
          clear H
          have H := H1
          clear H1
          replace H := Option.bind_eq_some_iff.mp H
          obtain ⟨t123, A250, H⟩ := H
          replace H : (if t123 = a0_1 then ((word_Field.f kj20 a1 12 3).bind fun t124 => (some (t124 == a0_2))) else (some false)) = some r := H
          have A25 := zz A250
          clear A250
          by_cases c26 : t123 = a0_1
          ·rw [if_pos c26] at H
           have c26b0 : (t123 == a0_1) = true := beq_iff_eq.mpr c26
           have c26b1 : (t123 != a0_1) = false := bne_eq_false_iff_eq.mpr c26
           clear c26
           replace H := Option.bind_eq_some_iff.mp H
           obtain ⟨t124, A270, H⟩ := H
           replace H : (some (t124 == a0_2)) = some r := H
           have A27 := zz A270
           clear A270
           obtain rfl := Option.some.inj H
           go_wp2_with (first | (go_at_call 78; (with_reducible refine (word_Field.calls kj20 a1 0 7 t123 _ A25.out).mono ?_); rintro e w' ⟨rfl, ⟨nd, rfl⟩⟩; (try first | exact ⟨rfl, _, World.drewN_drewN _ _ _⟩ | exact ⟨rfl, _, Eq.trans (World.drewN_drewN _ _ _) (congrArg (World.drewN _) (Nat.add_assoc _ _ _))⟩); obtain ⟨hcz28_0, hcz28_1, hcz28_2, hcz28_3⟩ := zzc4 BK118.out (.int .u8 a0_0) (.int .u32 a0_1) (.int .u32 a0_2) (.int .u32 a0_3); obtain ⟨hfz28_0, hfz28_1, hfz28_2, hfz28_3⟩ := zzf4 BK118.out) | (go_at_call 78; (with_reducible refine (word_Field.calls kj20 a1 12 3 t124 _ A27.out).mono ?_); rintro e w' ⟨rfl, ⟨nd, rfl⟩⟩; (try first | exact ⟨rfl, _, World.drewN_drewN _ _ _⟩ | exact ⟨rfl, _, Eq.trans (World.drewN_drewN _ _ _) (congrArg (World.drewN _) (Nat.add_assoc _ _ _))⟩)))
           repeat (go_quiet (first | (go_at_call 78; (with_reducible refine (word_Field.calls kj20 a1 0 7 t123 _ A25.out).mono ?_); rintro e w' ⟨rfl, ⟨nd, rfl⟩⟩; (try first | exact ⟨rfl, _, World.drewN_drewN _ _ _⟩ | exact ⟨rfl, _, Eq.trans (World.drewN_drewN _ _ _) (congrArg (World.drewN _) (Nat.add_assoc _ _ _))⟩); obtain ⟨hcz28_0, hcz28_1, hcz28_2, hcz28_3⟩ := zzc4 BK118.out (.int .u8 a0_0) (.int .u32 a0_1) (.int .u32 a0_2) (.int .u32 a0_3); obtain ⟨hfz28_0, hfz28_1, hfz28_2, hfz28_3⟩ := zzf4 BK118.out) | (go_at_call 78; (with_reducible refine (word_Field.calls kj20 a1 12 3 t124 _ A27.out).mono ?_); rintro e w' ⟨rfl, ⟨nd, rfl⟩⟩; (try first | exact ⟨rfl, _, World.drewN_drewN _ _ _⟩ | exact ⟨rfl, _, Eq.trans (World.drewN_drewN _ _ _) (congrArg (World.drewN _) (Nat.add_assoc _ _ _))⟩))); try go_wp2_with (first | (go_at_call 78; (with_reducible refine (word_Field.calls kj20 a1 0 7 t123 _ A25.out).mono ?_); rintro e w' ⟨rfl, ⟨nd, rfl⟩⟩; (try first | exact ⟨rfl, _, World.drewN_drewN _ _ _⟩ | exact ⟨rfl, _, Eq.trans (World.drewN_drewN _ _ _) (congrArg (World.drewN _) (Nat.add_assoc _ _ _))⟩); obtain ⟨hcz28_0, hcz28_1, hcz28_2, hcz28_3⟩ := zzc4 BK118.out (.int .u8 a0_0) (.int .u32 a0_1) (.int .u32 a0_2) (.int .u32 a0_3); obtain ⟨hfz28_0, hfz28_1, hfz28_2, hfz28_3⟩ := zzf4 BK118.out) | (go_at_call 78; (with_reducible refine (word_Field.calls kj20 a1 12 3 t124 _ A27.out).mono ?_); rintro e w' ⟨rfl, ⟨nd, rfl⟩⟩; (try first | exact ⟨rfl, _, World.drewN_drewN _ _ _⟩ | exact ⟨rfl, _, Eq.trans (World.drewN_drewN _ _ _) (congrArg (World.drewN _) (Nat.add_assoc _ _ _))⟩))))
           go_ret
           exact ⟨zze, zzg⟩
          ·rw [if_neg c26] at H
           have c26b0 : (t123 == a0_1) = false := beq_eq_false_iff_ne.mpr c26
           have c26b1 : (t123 != a0_1) = true := bne_iff_ne.mpr c26
           obtain rfl := Option.some.inj H
           go_wp2_with (first | (go_at_call 78; (with_reducible refine (word_Field.calls kj20 a1 0 7 t123 _ A25.out).mono ?_); rintro e w' ⟨rfl, ⟨nd, rfl⟩⟩; (try first | exact ⟨rfl, _, World.drewN_drewN _ _ _⟩ | exact ⟨rfl, _, Eq.trans (World.drewN_drewN _ _ _) (congrArg (World.drewN _) (Nat.add_assoc _ _ _))⟩); obtain ⟨hcz29_0, hcz29_1, hcz29_2, hcz29_3⟩ := zzc4 BK118.out (.int .u8 a0_0) (.int .u32 a0_1) (.int .u32 a0_2) (.int .u32 a0_3); obtain ⟨hfz29_0, hfz29_1, hfz29_2, hfz29_3⟩ := zzf4 BK118.out))
           repeat (go_quiet (first | (go_at_call 78; (with_reducible refine (word_Field.calls kj20 a1 0 7 t123 _ A25.out).mono ?_); rintro e w' ⟨rfl, ⟨nd, rfl⟩⟩; (try first | exact ⟨rfl, _, World.drewN_drewN _ _ _⟩ | exact ⟨rfl, _, Eq.trans (World.drewN_drewN _ _ _) (congrArg (World.drewN _) (Nat.add_assoc _ _ _))⟩); obtain ⟨hcz29_0, hcz29_1, hcz29_2, hcz29_3⟩ := zzc4 BK118.out (.int .u8 a0_0) (.int .u32 a0_1) (.int .u32 a0_2) (.int .u32 a0_3); obtain ⟨hfz29_0, hfz29_1, hfz29_2, hfz29_3⟩ := zzf4 BK118.out)); try go_wp2_with (first | (go_at_call 78; (with_reducible refine (word_Field.calls kj20 a1 0 7 t123 _ A25.out).mono ?_); rintro e w' ⟨rfl, ⟨nd, rfl⟩⟩; (try first | exact ⟨rfl, _, World.drewN_drewN _ _ _⟩ | exact ⟨rfl, _, Eq.trans (World.drewN_drewN _ _ _) (congrArg (World.drewN _) (Nat.add_assoc _ _ _))⟩); obtain ⟨hcz29_0, hcz29_1, hcz29_2, hcz29_3⟩ := zzc4 BK118.out (.int .u8 a0_0) (.int .u32 a0_1) (.int .u32 a0_2) (.int .u32 a0_3); obtain ⟨hfz29_0, hfz29_1, hfz29_2, hfz29_3⟩ := zzf4 BK118.out)))
           go_ret
           exact ⟨zze, zzg⟩
         ·replace c24 := Bool.eq_false_iff.mpr c24
          subst c24
          have H1 : (some false) = some r := by rw [if_neg (show ¬ (false = true) by decide)] at H; exact H
          clear H
          have H := H1
          clear H1
          obtain rfl := Option.some.inj H
          go_wp2
          repeat (go_quiet (fail); try go_wp2)
          go_ret
          exact ⟨zze, zzg⟩
def word_Sign.j0 : Nat → Int → Int → Bool → Option (Int)
 | 0, _, _, _ => none
 | k + 1, x0, x1, x10 => if x10 = true then (some x0) else ((word_mask.f k x1).bind fun t125 => (if 0 ≤ (wrap64 (x1 - 1)) then (if (shr .u32 (Go.bits .and .u32 x0 t125) (wrap64 (x1 - 1))) = 1 then ((word_mask.f k x1).bind fun t126 => (some (Go.bits .or .u32 (Go.bits .and .u32 x0 t125) (Go.bits .xor .u32 4294967295 t126)))) else (some (Go.bits .and .u32 x0 t125))) else (none)))
def word_Sign.f (k : Nat) (a0 : Int) (a1 : Int) : Option (Int) := if a1 < 1 then (word_Sign.j0 k a0 a1 true) else (word_Sign.j0 k a0 a1 (decide (a1 ≥ 32)))
theorem word_Sign.mono_l : ∀ k, (∀ y0 y1 y2, LeO (word_Sign.j0 k y0 y1 y2) (word_Sign.j0 (k + 1) y0 y1 y2))
 | 0 => fun _ _ _ r h => by simp [word_Sign.j0] at h
 | k + 1 => by
  have ih0 := word_Sign.mono_l k
  ·intro y0 y1 y2
   unfold word_Sign.j0
   repeat' first
   | (with_reducible exact ih0 _ _ _)
   | (with_reducible exact word_mask.mono _ _)
   | (with_reducible exact LeO.refl _)
   | (with_reducible exact LeO.none _)
   | (with_reducible refine LeO.ite ?_ ?_)
   | (with_reducible refine LeO.bind ?_ (fun _ => ?_))
   | exact ih0 _ _ _
   | exact word_mask.mono _ _
   | exact LeO.none _
   | refine LeO.ite ?_ ?_
   | refine LeO.bind ?_ (fun _ => ?_)
theorem word_Sign.mono : ∀ a0 a1 k, LeO (word_Sign.f k a0 a1) (word_Sign.f (k + 1) a0 a1) := by
 intro a0 a1 k
 have ih0 := word_Sign.mono_l k
 unfold word_Sign.f
 repeat' first
   | (with_reducible exact ih0 _ _ _)
   | (with_reducible exact word_mask.mono _ _)
   | (with_reducible exact LeO.refl _)
   | (with_reducible exact LeO.none _)
   | (with_reducible refine LeO.ite ?_ ?_)
   | (with_reducible refine LeO.bind ?_ (fun _ => ?_))
   | exact ih0 _ _ _
   | exact word_mask.mono _ _
   | exact LeO.none _
   | refine LeO.ite ?_ ?_
   | refine LeO.bind ?_ (fun _ => ?_)
set_option maxHeartbeats 8000000 in
set_option maxRecDepth 100000 in
theorem word_Sign.calls (k : Nat) (a0 : Int) (a1 : Int) (r : Int) (w : World) (h : word_Sign.f k a0 a1 = some r) :
  Calls Try.prog 98 #[.int .u32 a0, .int .i64 a1] w fun e w' => e = .returned (.int .u32 r) ∧ Drawn0 w w' := by
 have H : (if a1 < 1 then (word_Sign.j0 k a0 a1 true) else (word_Sign.j0 k a0 a1 (decide (a1 ≥ 32)))) = some r := h
 clear h
 have HC3 := zz H
 clear H
 go_enter Try.func98, Try.ntmps98
 go_upto_region 1 with (fail)
 go_cut [10] (fun v10 wc => ∃ (kq : Nat) (x10_2 : Bool), v10 = .bool x10_2 ∧ Aside0 (word_Sign.j0 kq a0 a1 x10_2 = some r) ∧ Aside0 (kq ≤ k) ∧ Drawn0 w wc)
 case first =>
  have H := HC3.out
  clear HC3
  by_cases c4 : a1 < 1
  ·rw [if_pos c4] at H
   have c4b0 : decide (a1 < 1) = true := decide_eq_true c4
   clear c4
   (first | rw [c4b0] | (simp only [i64_w, i32_w]; rw [c4b0]) | skip)
   have H' := zz H
   clear H
   go_wp2
   go_meet
   case rel => exact ⟨_, (true), (zzh), H', ⟨by first | omega | exact Nat.le_refl _⟩, zzd⟩
  ·rw [if_neg c4] at H
   have c4b0 : decide (a1 < 1) = false := decide_eq_false c4
   clear c4
   (first | rw [c4b0] | (simp only [i64_w, i32_w]; rw [c4b0]) | skip)
   have H' := zz H
   clear H
   go_wp2
   go_meet
   case rel => exact ⟨_, (decide (a1 ≥ 32)), (zzh), H', ⟨by first | omega | exact Nat.le_refl _⟩, zzd⟩
 case rest =>
  clear HC3
  try clear p2
  try clear c4
  try clear c4b0
  obtain ⟨kq, x10_2, rfl, HA, HJ2, ⟨mc2, rfl⟩⟩ := hcut
  cases kq with
  | zero => exact absurd HA.out (by simp [word_Sign.j0])
  | succ kj2 =>
   have H := HA.out
   clear HA
   simp only [word_Sign.j0] at H
   by_cases c5 : x10_2 = true
   ·subst c5
    have H1 : (some a0) = some r := by rw [if_pos rfl] at H; exact H
    clear H
    have H := H1
    clear H1
    obtain rfl := Option.some.inj H
    go_wp2
    go_ret
    exact ⟨zzh, zzd⟩
   ·replace c5 := Bool.eq_false_iff.mpr c5
    subst c5
    have H1 : ((word_mask.f kj2 a1).bind fun t125 => (if 0 ≤ (wrap64 (a1 - 1)) then (if (shr .u32 (Go.bits .and .u32 a0 t125) (wrap64 (a1 - 1))) = 1 then ((word_mask.f kj2 a1).bind fun t126 => (some (Go.bits .or .u32 (Go.bits .and .u32 a0 t125) (Go.bits .xor .u32 4294967295 t126)))) else (some (Go.bits .and .u32 a0 t125))) else (none))) = some r := by rw [if_neg (show ¬ (false = true) by decide)] at H; exact H
    clear H
    have H := H1
    clear H1
    replace H := Option.bind_eq_some_iff.mp H
    obtain ⟨t125, A60, H⟩ := H
    replace H : (if 0 ≤ (wrap64 (a1 - 1)) then (if (shr .u32 (Go.bits .and .u32 a0 t125) (wrap64 (a1 - 1))) = 1 then ((word_mask.f kj2 a1).bind fun t126 => (some (Go.bits .or .u32 (Go.bits .and .u32 a0 t125) (Go.bits .xor .u32 4294967295 t126)))) else (some (Go.bits .and .u32 a0 t125))) else (none)) = some r := H
    have A6 := zz A60
    clear A60
    obtain ⟨ji7, hji7⟩ : ∃ j_ : Int, (wrap64 (a1 - 1)) = j_ := ⟨_, rfl⟩
    replace H : (if 0 ≤ (ji7) then (if (shr .u32 (Go.bits .and .u32 a0 t125) (ji7)) = 1 then ((word_mask.f kj2 a1).bind fun t126 => (some (Go.bits .or .u32 (Go.bits .and .u32 a0 t125) (Go.bits .xor .u32 4294967295 t126)))) else (some (Go.bits .and .u32 a0 t125))) else (none)) = some r := by first | (rw [hji7] at H; exact H) | (simp only [hji7] at H ⊢; exact H)
    (try rw [hji7] at A6)
    have hji7w : (IntKind.i64.wrap (a1 - 1)) = ji7 := (i64_w _).trans hji7
    by_cases c8 : 0 ≤ (ji7)
    ·rw [if_pos c8] at H
     have c8b0 := eq_true c8
     have c8b1 : decide (0 ≤ (ji7)) = true := decide_eq_true c8
     clear c8
     obtain ⟨ji9, hji9⟩ : ∃ j_ : Int, (shr .u32 (Go.bits .and .u32 a0 t125) (ji7)) = j_ := ⟨_, rfl⟩
     replace H : (if (ji9) = 1 then ((word_mask.f kj2 a1).bind fun t126 => (some (Go.bits .or .u32 (Go.bits .and .u32 a0 t125) (Go.bits .xor .u32 4294967295 t126)))) else (some (Go.bits .and .u32 a0 t125))) = some r := by first | (rw [hji9] at H; exact H) | (simp only [hji9] at H ⊢; exact H)
     (try rw [hji9] at A6)
     have hji9_ : ((Go.bits .and .u32 a0 t125) / 2 ^ min (ji7).toNat 32) = ji9 := hji9
     have hji9z : (ji7) ≤ 32 → ((Go.bits .and .u32 a0 t125) / 2 ^ (ji7).toNat) = ji9 := shr_small hji9
     by_cases c10 : (ji9) = 1
     ·rw [if_pos c10] at H
      have c10b0 : ((ji9) == 1) = true := beq_iff_eq.mpr c10
      have c10b1 : ((ji9) != 1) = false := bne_eq_false_iff_eq.mpr c10
      clear c10
      replace H := Option.bind_eq_some_iff.mp H
      obtain ⟨t126, A110, H⟩ := H
      replace H : (some (Go.bits .or .u32 (Go.bits .and .u32 a0 t125) (Go.bits .xor .u32 4294967295 t126))) = some r := H
      have A11 := zz A110
      clear A110
      obtain rfl := Option.some.inj H
      go_wp2_with (first | ((with_reducible refine gate_callee (f := 94) rfl ?_); refine goesL_ (some 14) rfl rfl Try.func94 (by kernel_rfl) rfl #[.int .i64 a1] rfl zza ?_; (with_reducible refine (word_mask.calls kj2 a1 t125 _ A6.out).mono ?_); rintro e w' ⟨rfl, ⟨nd, rfl⟩⟩; refine ⟨_, rfl, ?_⟩) | ((with_reducible refine gate_callee (f := 94) rfl ?_); refine goesL_ (some 23) rfl rfl Try.func94 (by kernel_rfl) rfl #[.int .i64 a1] rfl zza ?_; (with_reducible refine (word_mask.calls kj2 a1 t126 _ A11.out).mono ?_); rintro e w' ⟨rfl, ⟨nd, rfl⟩⟩; refine ⟨_, rfl, ?_⟩))
      go_ret
      exact ⟨by first | rfl | (simp; done) | (simp only [← hji7, ← hji9] <;> (first | rfl | simp)) | (simp [*]; done), zzd⟩
     ·rw [if_neg c10] at H
      have c10b0 : ((ji9) == 1) = false := beq_eq_false_iff_ne.mpr c10
      have c10b1 : ((ji9) != 1) = true := bne_iff_ne.mpr c10
      obtain rfl := Option.some.inj H
      go_wp2_with (first | ((with_reducible refine gate_callee (f := 94) rfl ?_); refine goesL_ (some 14) rfl rfl Try.func94 (by kernel_rfl) rfl #[.int .i64 a1] rfl zza ?_; (with_reducible refine (word_mask.calls kj2 a1 t125 _ A6.out).mono ?_); rintro e w' ⟨rfl, ⟨nd, rfl⟩⟩; refine ⟨_, rfl, ?_⟩))
      go_ret
      exact ⟨by first | rfl | (simp; done) | (simp only [← hji7, ← hji9] <;> (first | rfl | simp)) | (simp [*]; done), zzd⟩
    ·rw [if_neg c8] at H
     exact absurd H (by simp)
def inst_signed.f (k : Nat) (a0 : Int) (a1 : Int) : Option (Int) := (word_Sign.f k a0 a1).bind fun t127 => (some (wrap64 (wrap32 (t127))))
theorem inst_signed.mono : ∀ a0 a1 k, LeO (inst_signed.f k a0 a1) (inst_signed.f (k + 1) a0 a1) := by
 intro a0 a1 k
 unfold inst_signed.f
 repeat' first
   | (with_reducible exact word_Sign.mono _ _ _)
   | (with_reducible exact LeO.refl _)
   | (with_reducible exact LeO.none _)
   | (with_reducible refine LeO.ite ?_ ?_)
   | (with_reducible refine LeO.bind ?_ (fun _ => ?_))
   | exact word_Sign.mono _ _ _
   | exact LeO.none _
   | refine LeO.ite ?_ ?_
   | refine LeO.bind ?_ (fun _ => ?_)
set_option maxHeartbeats 8000000 in
set_option maxRecDepth 100000 in
theorem inst_signed.calls (k : Nat) (a0 : Int) (a1 : Int) (r : Int) (w : World) (h : inst_signed.f k a0 a1 = some r) :
  Calls Try.prog 92 #[.int .u32 a0, .int .i64 a1] w fun e w' => e = .returned (.int .i64 r) ∧ Drawn0 w w' := by
 have H : ((word_Sign.f k a0 a1).bind fun t127 => (some (wrap64 (wrap32 (t127))))) = some r := h
 clear h
 replace H := Option.bind_eq_some_iff.mp H
 obtain ⟨t127, A30, H⟩ := H
 replace H : (some (wrap64 (wrap32 (t127)))) = some r := H
 have A3 := zz A30
 clear A30
 obtain rfl := Option.some.inj H
 go_enter Try.func92, Try.ntmps92
 go_wp2_with (first | ((with_reducible refine gate_callee (f := 98) rfl ?_); refine goesL_ (some 7) rfl rfl Try.func98 (by kernel_rfl) rfl #[.int .u32 a0, .int .i64 a1] rfl zza ?_; (with_reducible refine (word_Sign.calls k a0 a1 t127 _ A3.out).mono ?_); rintro e w' ⟨rfl, ⟨nd, rfl⟩⟩; refine ⟨_, rfl, ?_⟩))
 go_ret
 exact ⟨zzh, zzd⟩
def inst_imm.f (k : Nat) (a0 a1 : Int) : Option Int :=
 if a0 = 85 then (word_Field.f k a1 12 20).bind fun t1 => some (wrap64 t1)
 else if a0 = 74 then (word_Field.f k a1 31 1).bind fun t1 => (word_Field.f k a1 12 8).bind fun t2 => (word_Field.f k a1 20 1).bind fun t3 => (word_Field.f k a1 21 10).bind fun t4 => (inst_signed.f k (Go.bits .or .u32 (Go.bits .or .u32 (Go.bits .or .u32 ((t1 * 1048576) % 4294967296) ((t2 * 4096) % 4294967296)) ((t3 * 2048) % 4294967296)) ((t4 * 2) % 4294967296)) 21).bind fun t9 => some t9
 else if a0 = 73 then (word_Field.f k a1 20 12).bind fun t1 => (inst_signed.f k (t1) 12).bind fun t9 => some t9
 else if a0 = 83 then (word_Field.f k a1 25 7).bind fun t1 => (word_Field.f k a1 7 5).bind fun t2 => (inst_signed.f k (Go.bits .or .u32 ((t1 * 32) % 4294967296) (t2)) 12).bind fun t9 => some t9
 else if a0 = 66 then (word_Field.f k a1 31 1).bind fun t1 => (word_Field.f k a1 7 1).bind fun t2 => (word_Field.f k a1 25 6).bind fun t3 => (word_Field.f k a1 8 4).bind fun t4 => (inst_signed.f k (Go.bits .or .u32 (Go.bits .or .u32 (Go.bits .or .u32 ((t1 * 4096) % 4294967296) ((t2 * 2048) % 4294967296)) ((t3 * 32) % 4294967296)) ((t4 * 2) % 4294967296)) 13).bind fun t9 => some t9
 else if a0 = 72 then (word_Field.f k a1 20 5).bind fun t1 => some (wrap64 t1)
 else some 0
theorem inst_imm.mono : ∀ a0 a1 k, LeO (inst_imm.f k a0 a1) (inst_imm.f (k + 1) a0 a1) := by
 intro a0 a1 k
 unfold inst_imm.f
 repeat' first
   | (with_reducible exact word_Field.mono _ _ _ _)
   | (with_reducible exact inst_signed.mono _ _ _)
   | (with_reducible exact LeO.refl _)
   | (with_reducible refine LeO.ite ?_ ?_)
   | (with_reducible refine LeO.bind ?_ (fun _ => ?_))
set_option maxHeartbeats 800000 in
set_option maxRecDepth 100000 in
theorem imm1 (k : Nat) (n p b fr : Int) (g : Nat) (w : World) (hc : w.cell? ⟨g, 0, none⟩ = some (.int .u32 n)) (hF : word_Field.f k n p b = some fr) :
  Calls Try.prog 91 #[.int .i64 p, .int .i64 b, .pointer (some ⟨g, 0, none⟩)] w fun e w' => e = .returned (.int .u32 fr) ∧ Drawn0 w w' := by
 have HF := zz hF
 clear hF
 go_enter Try.func91, Try.ntmps91
 go_wp2_with (go_at_call 78; (with_reducible refine (word_Field.calls k n p b fr _ HF.out).mono ?_); rintro e w' ⟨rfl, ⟨nd, rfl⟩⟩)
 go_ret
 exact ⟨rfl, zzd⟩
set_option maxHeartbeats 1600000 in
set_option maxRecDepth 100000 in
theorem inst_imm.calls (k : Nat) (a0 a1 r : Int) (w : World) (h : inst_imm.f k a0 a1 = some r) :
  Calls Try.prog 77 #[.int .u8 a0, .int .u32 a1] w fun e w' => e = .returned (.int .i64 r) ∧ Below w.heap.size w w' := by
 unfold inst_imm.f at h
 by_cases c0 : a0 = 85
 ·rw [if_pos c0] at h
  subst c0
  obtain ⟨t1, A1, h⟩ := Option.bind_eq_some_iff.mp h
  have A1 := zz A1
  obtain rfl := Option.some.inj h
  go_enter Try.func77, Try.ntmps77
  go_wp2_with (first | (go_at_call 91; (with_reducible refine (imm1 k a1 12 20 t1 _ _ ?_ A1.out).mono ?_); (first | exact box_cell w a1 _ _ _ | exact box_cell w a1 _ _ 0); rintro e w' ⟨rfl, ⟨nd, rfl⟩⟩))
  go_ret
  exact ⟨by first | rfl | (simp; done), by first | exact box_below w _ _ | exact box_below w _ 0⟩
 rw [if_neg c0] at h
 have b0 : (a0 == 85) = false := beq_eq_false_iff_ne.mpr c0
 by_cases c1 : a0 = 74
 ·rw [if_pos c1] at h
  subst c1
  clear c0 b0
  obtain ⟨t1, A1, h⟩ := Option.bind_eq_some_iff.mp h
  obtain ⟨t2, A2, h⟩ := Option.bind_eq_some_iff.mp h
  obtain ⟨t3, A3, h⟩ := Option.bind_eq_some_iff.mp h
  obtain ⟨t4, A4, h⟩ := Option.bind_eq_some_iff.mp h
  have A1 := zz A1; have A2 := zz A2; have A3 := zz A3; have A4 := zz A4
  obtain ⟨t9, A9, h⟩ := Option.bind_eq_some_iff.mp h
  have A9 := zz A9
  obtain rfl := Option.some.inj h
  go_enter Try.func77, Try.ntmps77
  go_wp2_with (first | (go_at_call 91; (with_reducible refine (imm1 k a1 31 1 t1 _ _ ?_ A1.out).mono ?_); (first | exact box_cell w a1 _ _ _ | exact box_cell w a1 _ _ 0); rintro e w' ⟨rfl, ⟨nd, rfl⟩⟩) | (go_at_call 91; (with_reducible refine (imm1 k a1 12 8 t2 _ _ ?_ A2.out).mono ?_); (first | exact box_cell w a1 _ _ _ | exact box_cell w a1 _ _ 0); rintro e w' ⟨rfl, ⟨nd, rfl⟩⟩) | (go_at_call 91; (with_reducible refine (imm1 k a1 20 1 t3 _ _ ?_ A3.out).mono ?_); (first | exact box_cell w a1 _ _ _ | exact box_cell w a1 _ _ 0); rintro e w' ⟨rfl, ⟨nd, rfl⟩⟩) | (go_at_call 91; (with_reducible refine (imm1 k a1 21 10 t4 _ _ ?_ A4.out).mono ?_); (first | exact box_cell w a1 _ _ _ | exact box_cell w a1 _ _ 0); rintro e w' ⟨rfl, ⟨nd, rfl⟩⟩) | (go_at_call 92; (with_reducible refine (inst_signed.calls k (Go.bits .or .u32 (Go.bits .or .u32 (Go.bits .or .u32 ((t1 * 1048576) % 4294967296) ((t2 * 4096) % 4294967296)) ((t3 * 2048) % 4294967296)) ((t4 * 2) % 4294967296)) 21 t9 _ A9.out).mono ?_); rintro e w' ⟨rfl, ⟨nd, rfl⟩⟩))
  go_ret
  exact ⟨by first | rfl | (simp; done), by first | exact box_below w _ _ | exact box_below w _ 0⟩
 rw [if_neg c1] at h
 have b1 : (a0 == 74) = false := beq_eq_false_iff_ne.mpr c1
 by_cases c2 : a0 = 73
 ·rw [if_pos c2] at h
  subst c2
  clear c0 b0 c1 b1
  obtain ⟨t1, A1, h⟩ := Option.bind_eq_some_iff.mp h
  have A1 := zz A1
  obtain ⟨t9, A9, h⟩ := Option.bind_eq_some_iff.mp h
  have A9 := zz A9
  obtain rfl := Option.some.inj h
  go_enter Try.func77, Try.ntmps77
  go_wp2_with (first | (go_at_call 91; (with_reducible refine (imm1 k a1 20 12 t1 _ _ ?_ A1.out).mono ?_); (first | exact box_cell w a1 _ _ _ | exact box_cell w a1 _ _ 0); rintro e w' ⟨rfl, ⟨nd, rfl⟩⟩) | (go_at_call 92; (with_reducible refine (inst_signed.calls k (t1) 12 t9 _ A9.out).mono ?_); rintro e w' ⟨rfl, ⟨nd, rfl⟩⟩))
  go_ret
  exact ⟨by first | rfl | (simp; done), by first | exact box_below w _ _ | exact box_below w _ 0⟩
 rw [if_neg c2] at h
 have b2 : (a0 == 73) = false := beq_eq_false_iff_ne.mpr c2
 by_cases c3 : a0 = 83
 ·rw [if_pos c3] at h
  subst c3
  clear c0 b0 c1 b1 c2 b2
  obtain ⟨t1, A1, h⟩ := Option.bind_eq_some_iff.mp h
  obtain ⟨t2, A2, h⟩ := Option.bind_eq_some_iff.mp h
  have A1 := zz A1; have A2 := zz A2
  obtain ⟨t9, A9, h⟩ := Option.bind_eq_some_iff.mp h
  have A9 := zz A9
  obtain rfl := Option.some.inj h
  go_enter Try.func77, Try.ntmps77
  go_wp2_with (first | (go_at_call 91; (with_reducible refine (imm1 k a1 25 7 t1 _ _ ?_ A1.out).mono ?_); (first | exact box_cell w a1 _ _ _ | exact box_cell w a1 _ _ 0); rintro e w' ⟨rfl, ⟨nd, rfl⟩⟩) | (go_at_call 91; (with_reducible refine (imm1 k a1 7 5 t2 _ _ ?_ A2.out).mono ?_); (first | exact box_cell w a1 _ _ _ | exact box_cell w a1 _ _ 0); rintro e w' ⟨rfl, ⟨nd, rfl⟩⟩) | (go_at_call 92; (with_reducible refine (inst_signed.calls k (Go.bits .or .u32 ((t1 * 32) % 4294967296) (t2)) 12 t9 _ A9.out).mono ?_); rintro e w' ⟨rfl, ⟨nd, rfl⟩⟩))
  go_ret
  exact ⟨by first | rfl | (simp; done), by first | exact box_below w _ _ | exact box_below w _ 0⟩
 rw [if_neg c3] at h
 have b3 : (a0 == 83) = false := beq_eq_false_iff_ne.mpr c3
 by_cases c4 : a0 = 66
 ·rw [if_pos c4] at h
  subst c4
  clear c0 b0 c1 b1 c2 b2 c3 b3
  obtain ⟨t1, A1, h⟩ := Option.bind_eq_some_iff.mp h
  obtain ⟨t2, A2, h⟩ := Option.bind_eq_some_iff.mp h
  obtain ⟨t3, A3, h⟩ := Option.bind_eq_some_iff.mp h
  obtain ⟨t4, A4, h⟩ := Option.bind_eq_some_iff.mp h
  have A1 := zz A1; have A2 := zz A2; have A3 := zz A3; have A4 := zz A4
  obtain ⟨t9, A9, h⟩ := Option.bind_eq_some_iff.mp h
  have A9 := zz A9
  obtain rfl := Option.some.inj h
  go_enter Try.func77, Try.ntmps77
  go_wp2_with (first | (go_at_call 91; (with_reducible refine (imm1 k a1 31 1 t1 _ _ ?_ A1.out).mono ?_); (first | exact box_cell w a1 _ _ _ | exact box_cell w a1 _ _ 0); rintro e w' ⟨rfl, ⟨nd, rfl⟩⟩) | (go_at_call 91; (with_reducible refine (imm1 k a1 7 1 t2 _ _ ?_ A2.out).mono ?_); (first | exact box_cell w a1 _ _ _ | exact box_cell w a1 _ _ 0); rintro e w' ⟨rfl, ⟨nd, rfl⟩⟩) | (go_at_call 91; (with_reducible refine (imm1 k a1 25 6 t3 _ _ ?_ A3.out).mono ?_); (first | exact box_cell w a1 _ _ _ | exact box_cell w a1 _ _ 0); rintro e w' ⟨rfl, ⟨nd, rfl⟩⟩) | (go_at_call 91; (with_reducible refine (imm1 k a1 8 4 t4 _ _ ?_ A4.out).mono ?_); (first | exact box_cell w a1 _ _ _ | exact box_cell w a1 _ _ 0); rintro e w' ⟨rfl, ⟨nd, rfl⟩⟩) | (go_at_call 92; (with_reducible refine (inst_signed.calls k (Go.bits .or .u32 (Go.bits .or .u32 (Go.bits .or .u32 ((t1 * 4096) % 4294967296) ((t2 * 2048) % 4294967296)) ((t3 * 32) % 4294967296)) ((t4 * 2) % 4294967296)) 13 t9 _ A9.out).mono ?_); rintro e w' ⟨rfl, ⟨nd, rfl⟩⟩))
  go_ret
  exact ⟨by first | rfl | (simp; done), by first | exact box_below w _ _ | exact box_below w _ 0⟩
 rw [if_neg c4] at h
 have b4 : (a0 == 66) = false := beq_eq_false_iff_ne.mpr c4
 by_cases c5 : a0 = 72
 ·rw [if_pos c5] at h
  subst c5
  clear c0 b0 c1 b1 c2 b2 c3 b3 c4 b4
  obtain ⟨t1, A1, h⟩ := Option.bind_eq_some_iff.mp h
  have A1 := zz A1
  obtain rfl := Option.some.inj h
  go_enter Try.func77, Try.ntmps77
  go_wp2_with (first | (go_at_call 91; (with_reducible refine (imm1 k a1 20 5 t1 _ _ ?_ A1.out).mono ?_); (first | exact box_cell w a1 _ _ _ | exact box_cell w a1 _ _ 0); rintro e w' ⟨rfl, ⟨nd, rfl⟩⟩))
  go_ret
  exact ⟨by first | rfl | (simp; done), by first | exact box_below w _ _ | exact box_below w _ 0⟩
 rw [if_neg c5] at h
 have b5 : (a0 == 72) = false := beq_eq_false_iff_ne.mpr c5
 obtain rfl := Option.some.inj h
 go_enter Try.func77, Try.ntmps77
 go_wp2_with fail
 go_ret
 exact ⟨by first | rfl | (simp; done), by first | exact box_below w _ _ | exact box_below w _ 0⟩
end Go.Proofs.Ytekenddkoahjgaa.Q
