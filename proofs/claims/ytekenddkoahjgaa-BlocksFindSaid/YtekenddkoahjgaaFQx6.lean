import Derived.Test.YtekenddkoahjgaaFZc
import Derived.Test.YtekenddkoahjgaaFQx3
import Derived.Test.YtekenddkoahjgaaFQx4
import Derived.Test.YtekenddkoahjgaaFQx5
section
namespace Go.Proofs.Ytekenddkoahjgaa.Q
open Go.RowKit Go.Proofs.YtekenddkoahjgaaW.PrintWords Go.Proofs.YtekenddkoahjgaaW.PrintLast Go.Proofs.YtekenddkoahjgaaW.PrintMore
attribute [local go_sem] max2_int min2_int max_two min_two max_three min_three max_four min_four
attribute [local go_sem] imax_u32 imax_u8 isg_u32 isg_u8
set_option linter.unusedVariables false
set_option linter.unusedSimpArgs false
theorem obs {α β : Type} (a : α) (f : α → Option β) : (some a).bind f = f a := by
 have h : ∀ o : Option α, o = some a → o.bind f = f a := by intro o ho; subst ho; rfl
 exact h _ rfl
def frm (op : Int) : Int := if 0 ≤ op ∧ op < 47 then (kGet op.toNat).1 else 0
theorem Form_eq (op : Int) : inst_Form.f op = some (frm op) := rfl
theorem frm_in : ∀ n : Fin 47, (kGet n.val).1 = 85 ∨ (kGet n.val).1 = 74 ∨ (kGet n.val).1 = 73 ∨ (kGet n.val).1 = 66 ∨ (kGet n.val).1 = 83 ∨ (kGet n.val).1 = 72 ∨ (kGet n.val).1 = 82 ∨ (kGet n.val).1 = 69 := by decide
theorem frm_cases (op : Int) : (¬ (0 ≤ op ∧ op < 47) ∧ frm op = 0) ∨ ((0 ≤ op ∧ op < 47) ∧ (frm op = 85 ∨ frm op = 74 ∨ frm op = 73 ∨ frm op = 66 ∨ frm op = 83 ∨ frm op = 72 ∨ frm op = 82 ∨ frm op = 69)) := by
 by_cases h : 0 ≤ op ∧ op < 47
 ·right
  obtain ⟨n, rfl⟩ := Int.eq_ofNat_of_zero_le h.1
  refine ⟨h, ?_⟩
  unfold frm
  rw [if_pos h, Int.toNat_natCast]
  exact frm_in ⟨n, by omega⟩
 ·left; refine ⟨h, ?_⟩; unfold frm; rw [if_neg h]
def hRd (f : Int) : Bool := decide (f = 85 ∨ f = 74 ∨ f = 73 ∨ f = 72 ∨ f = 82)
def hR1 (f : Int) : Bool := decide (f = 73 ∨ f = 72 ∨ f = 66 ∨ f = 83 ∨ f = 82)
def hR2 (f : Int) : Bool := decide (f = 66 ∨ f = 83 ∨ f = 82)
theorem has_eq (f : Int) (k : Nat) (hk : 4 ≤ k) : inst_has.f k f = some (hRd f, hR1 f, hR2 f) := by
 obtain ⟨k, rfl⟩ : ∃ m, k = m + 4 := ⟨k - 4, by omega⟩
 unfold hRd hR1 hR2 inst_has.f
 by_cases h1 : f = 85
 ·subst h1; rfl
 by_cases h2 : f = 74
 ·subst h2; rfl
 by_cases h3 : f = 73
 ·subst h3; rfl
 by_cases h4 : f = 72
 ·subst h4; rfl
 by_cases h5 : f = 66
 ·subst h5; rfl
 by_cases h6 : f = 83
 ·subst h6; rfl
 by_cases h7 : f = 82
 ·subst h7; rfl
 rw [if_neg h1, show (f == 74) = false from beq_eq_false_iff_ne.mpr h2]
 simp only [inst_has.j0, inst_has.j1, inst_has.j2]
 rw [if_neg (by decide), if_neg h3, show (f == 72) = false from beq_eq_false_iff_ne.mpr h4, if_neg (by decide), if_neg h5, show (f == 83) = false from beq_eq_false_iff_ne.mpr h6, if_neg (by decide), if_neg h7]
 simp [h1, h2, h3, h4, h5, h6, h7]
def numb (f m : Int) : Bool :=
 if f = 85 then decide (0 ≤ m ∧ m ≤ 1048575) else if f = 74 then decide (-1048576 ≤ m ∧ m ≤ 1048574 ∧ m % 2 = 0)
 else if f = 73 ∨ f = 83 then decide (-2048 ≤ m ∧ m ≤ 2047) else if f = 66 then decide (-4096 ≤ m ∧ m ≤ 4094 ∧ m % 2 = 0)
 else if f = 72 then decide (0 ≤ m ∧ m ≤ 31) else decide (m = 0)
theorem between_eq (a b c : Int) : inst_between.f a b c = some (decide (b ≤ a ∧ a ≤ c)) := by
 unfold inst_between.f
 by_cases h : a ≥ b
 ·rw [if_pos h]; congr 1; rw [decide_eq_decide]; omega
 ·rw [if_neg h, decide_eq_false (by omega)]
theorem tmod2 (m : Int) : (Int.tmod m 2 == 0) = decide (m % 2 = 0) := by
 have h : (Int.tmod m 2 = 0) ↔ (m % 2 = 0) := by
  rw [← Int.dvd_iff_tmod_eq_zero, Int.dvd_iff_emod_eq_zero]
 by_cases e : m % 2 = 0
 ·rw [decide_eq_true e, beq_iff_eq.mpr (h.mpr e)]
 ·rw [decide_eq_false e]; exact beq_eq_false_iff_ne.mpr (fun q => e (h.mp q))
theorem ite_and (p q : Prop) [Decidable p] [Decidable q] : (if decide p = true then some (decide q) else some false) = some (decide (p ∧ q)) := by
 by_cases h : p
 ·simp [h]
 ·simp [h]
theorem number_eq (f m : Int) (k : Nat) (hk : 1 ≤ k) : inst_number.f k f m = some (numb f m) := by
 obtain ⟨k, rfl⟩ : ∃ m, k = m + 1 := ⟨k - 1, by omega⟩
 unfold numb inst_number.f
 by_cases h1 : f = 85
 ·rw [if_pos h1, if_pos h1, between_eq, obs]
 rw [if_neg h1, if_neg h1]
 by_cases h2 : f = 74
 ·rw [if_pos h2, if_pos h2, between_eq, obs, tmod2, ite_and]; congr 1; rw [decide_eq_decide]; omega
 rw [if_neg h2, if_neg h2]
 simp only [inst_number.j0, between_eq, obs, tmod2, ite_and]
 by_cases h3 : f = 73
 ·subst h3; rfl
 by_cases h4 : f = 83
 ·subst h4; rfl
 rw [if_neg h3, show (f == 83) = false from beq_eq_false_iff_ne.mpr h4, if_neg (by decide), if_neg (show ¬ (f = 73 ∨ f = 83) by omega)]
 by_cases h5 : f = 66
 ·rw [if_pos h5, if_pos h5]; congr 1; rw [decide_eq_decide]; omega
 rw [if_neg h5, if_neg h5]
 by_cases h6 : f = 72
 ·rw [if_pos h6, if_pos h6]
 rw [if_neg h6, if_neg h6]
 rfl
def regv (b : Bool) (n : Int) : Bool := decide ((b = true ∧ 0 ≤ n ∧ n ≤ 31) ∨ n = 0)
theorem register_eq (b : Bool) (n : Int) : inst_register.f b n = some (regv b n) := by
 unfold inst_register.f regv
 cases b
 ·rw [if_neg (by decide)]; congr 1; by_cases h : n = 0 <;> simp [h]
 ·rw [if_pos rfl, between_eq, obs]
  by_cases h : 0 ≤ n ∧ n ≤ 31
  ·rw [if_pos (decide_eq_true h), decide_eq_true (Or.inl ⟨rfl, h⟩)]
  ·rw [if_neg (by rw [decide_eq_false h]; decide)]; congr 1
   by_cases h0 : n = 0
   ·omega
   ·rw [show (n == 0) = false from beq_eq_false_iff_ne.mpr h0, decide_eq_false (by omega)]
def rightv (a0 a1 a2 a3 a4 : Int) : Bool := decide (frm a0 ≠ 0) && (regv (hRd (frm a0)) a1 && (regv (hR1 (frm a0)) a2 && (regv (hR2 (frm a0)) a3 && numb (frm a0) a4)))
theorem Right_eq (a0 a1 a2 a3 a4 : Int) (k : Nat) (hk : 4 ≤ k) : inst_Right.f k a0 a1 a2 a3 a4 = some (rightv a0 a1 a2 a3 a4) := by
 unfold inst_Right.f rightv
 rw [Form_eq, obs, has_eq _ k hk, obs]
 by_cases h : frm a0 = 0
 ·rw [if_pos h, decide_eq_false (by simp [h])]; rfl
 rw [if_neg h, decide_eq_true h, register_eq, obs, register_eq, obs, register_eq, obs, number_eq _ _ k (by omega), obs]
 cases regv (hRd (frm a0)) a1 <;> cases regv (hR1 (frm a0)) a2 <;> cases regv (hR2 (frm a0)) a3 <;> rfl
theorem formC : Bl.FormC frm := fun op w => inst_Form.calls op (frm op) w rfl
def rgt (x : Bl.Ins) : Bool := rightv x.1 x.2.1 x.2.2.1 x.2.2.2.1 x.2.2.2.2
theorem rightC : Bl.RightC rgt := fun op rd a b m w => inst_Right.calls 4 op rd a b m (rgt (op, rd, a, b, m)) w (Right_eq _ _ _ _ _ 4 (Nat.le_refl _))
def castL (l : List Nat) : List Int := l.map (fun x : Nat => (x : Int))
theorem R_of_U {w : World} {base : Nat} {v : Value} {l : List Nat} (h : Bl.OwnU w base v l) : Kd.R (Kd.int .u32) 24 w base (fun _ => True) v (castL l) := by
 refine ⟨fun _ _ => trivial, l.map Bl.uc, ?_, ?_, fun j p hj => ?_⟩
 ·show w.ownsRow base _ 1 v (castL l).length _
  rw [castL, List.length_map]; exact h
 ·show (l.map Bl.uc).length = (castL l).length * 1
  simp [castL]
 ·rw [castL, List.getElem?_map] at hj
  obtain ⟨x, hx, rfl⟩ := Option.map_eq_some_iff.1 hj
  show ((l.map Bl.uc).drop (j * 1)).take 1 = [Value.int .u32 (x : Int)]
  have hlt : j < l.length := (List.getElem?_eq_some_iff.1 hx).1
  have hx' : l[j] = x := by rw [List.getElem?_eq_getElem hlt] at hx; exact Option.some.inj hx
  rw [Nat.mul_one, List.drop_eq_getElem_cons (by simpa using hlt), List.take_succ_cons, List.take_zero]
  simp [Bl.uc, hx']
theorem afterC : ∀ op rd u v m a w, Calls Try.prog 13 #[Bl.iv (op, rd, u, v, m), .int .u32 ((a : Nat) : Int)] w fun e w' => ∃ y, e = .returned y ∧ Bl.OwnU w' w.heap.size y (Bl.aftv frm rgt (op, rd, u, v, m) a) ∧ Below w.heap.size w w' :=
 fun op rd u v m a w => Bl.After_calls frm rgt formC rightC op rd u v m a w _ rfl
def blocks_After.f (a0_0 : Int) (a0_1 : Int) (a0_2 : Int) (a0_3 : Int) (a0_4 : Int) (a1 : Int) : Option (List Int) := if 0 ≤ a1 ∧ a1 < 4294967296 then some (castL (Bl.aftv frm rgt (a0_0, a0_1, a0_2, a0_3, a0_4) a1.toNat)) else none
theorem blocks_After.calls (a0_0 : Int) (a0_1 : Int) (a0_2 : Int) (a0_3 : Int) (a0_4 : Int) (a1 : Int) (r : List Int) (w : World) (h : blocks_After.f a0_0 a0_1 a0_2 a0_3 a0_4 a1 = some r) :
  Calls Try.prog 13 #[.agg #[.int .i64 a0_0, .int .i64 a0_1, .int .i64 a0_2, .int .i64 a0_3, .int .i64 a0_4], .int .u32 a1] w fun e w' => ∃ v0_ : Value, e = .returned (v0_) ∧ Kd.R (Kd.int .u32) 24 w' w.heap.size (fun _ => True) v0_ r ∧ Below w.heap.size w w' := by
 unfold blocks_After.f at h
 split at h
 ·rename_i hs
  obtain rfl := Option.some.inj h
  obtain ⟨n, rfl⟩ := Int.eq_ofNat_of_zero_le hs.1
  refine (afterC a0_0 a0_1 a0_2 a0_3 a0_4 n w).mono ?_
  rintro e w' ⟨v, rfl, hO, hb⟩
  exact ⟨v, rfl, R_of_U hO, hb⟩
 ·cases h
def blocks_Ends.f (k : Nat) (a0_0 : Int) (a0_1 : Int) (a0_2 : Int) (a0_3 : Int) (a0_4 : Int) : Option (Bool) := (inst_Right.f k a0_0 a0_1 a0_2 a0_3 a0_4).bind fun t352 => (if t352 = true then ((inst_Form.f a0_0).bind fun t353 => (if t353 = 66 then (some true) else (if a0_0 = 2 then (some true) else (if a0_0 = 3 then (some true) else (some (a0_0 == 46)))))) else (some true))
set_option maxHeartbeats 8000000 in
set_option maxRecDepth 100000 in
theorem blocks_Ends.calls (k : Nat) (a0_0 : Int) (a0_1 : Int) (a0_2 : Int) (a0_3 : Int) (a0_4 : Int) (r : Bool) (w : World) (h : blocks_Ends.f k a0_0 a0_1 a0_2 a0_3 a0_4 = some r) :
  Calls Try.prog 15 #[.agg #[.int .i64 a0_0, .int .i64 a0_1, .int .i64 a0_2, .int .i64 a0_3, .int .i64 a0_4]] w fun e w' => e = .returned (.bool r) ∧ Below w.heap.size w w' := by
 have hu23 := Try.underlying23
 have HB := Aside0.mk (Below.refl w.heap.size w)
 have H : ((inst_Right.f k a0_0 a0_1 a0_2 a0_3 a0_4).bind fun t352 => (if t352 = true then ((inst_Form.f a0_0).bind fun t353 => (if t353 = 66 then (some true) else (if a0_0 = 2 then (some true) else (if a0_0 = 3 then (some true) else (some (a0_0 == 46)))))) else (some true))) = some r := h
 clear h
 replace H := Option.bind_eq_some_iff.mp H
 obtain ⟨t352, A20, H⟩ := H
 replace H : (if t352 = true then ((inst_Form.f a0_0).bind fun t353 => (if t353 = 66 then (some true) else (if a0_0 = 2 then (some true) else (if a0_0 = 3 then (some true) else (some (a0_0 == 46)))))) else (some true)) = some r := H
 have A2 := Aside0.mk A20
 clear A20
 by_cases c3 : t352 = true
 ·subst c3
  have H1 : ((inst_Form.f a0_0).bind fun t353 => (if t353 = 66 then (some true) else (if a0_0 = 2 then (some true) else (if a0_0 = 3 then (some true) else (some (a0_0 == 46)))))) = some r := by rw [if_pos rfl] at H; exact H
  clear H
  have H := H1
  clear H1
  replace H := Option.bind_eq_some_iff.mp H
  obtain ⟨t353, A40, H⟩ := H
  replace H : (if t353 = 66 then (some true) else (if a0_0 = 2 then (some true) else (if a0_0 = 3 then (some true) else (some (a0_0 == 46))))) = some r := H
  have A4 := Aside0.mk A40
  clear A40
  by_cases c5 : t353 = 66
  ·rw [if_pos c5] at H
   have c5b0 : (t353 == 66) = true := beq_iff_eq.mpr c5
   have c5b1 : (t353 != 66) = false := bne_eq_false_iff_eq.mpr c5
   clear c5
   obtain rfl := Option.some.inj H
   go_enter Try.func15, Try.ntmps15
   go_wp2_with (first | ((with_reducible refine gate_dst (N := 1) rfl ?_); refine box_event ?hg (N := 1) ?hd (cs := #[.int .i64 a0_0, .int .i64 a0_1, .int .i64 a0_2, .int .i64 a0_3, .int .i64 a0_4]) (t := 23) ?hr ?_; (case hd => rfl); (case hg => rfl); (case hr => first | (go_simp; done) | (go_simp; rfl)); intro gb351 hg w6 hbox hb; have n0_ := Aside0.mk (below_step zzb hb); have n1_ := Aside0.mk (hbox); have n2_ := Aside0.mk ((by rw [hg]; exact (below_size zzb) : w.heap.size ≤ gb351)); have n3_ := Aside0.mk ((by rw [hg]; exact (below_size zzb) : w.heap.size ≤ gb351)); clear HB; have HB := n0_; have BK351 := n1_; have GW351 := n2_; have GE351 := n3_; clear n0_ n1_ n2_ n3_; clear hb hbox hg; obtain ⟨hcz7_0, hcz7_1, hcz7_2, hcz7_3, hcz7_4⟩ := zzc5 BK351.out (.int .i64 a0_0) (.int .i64 a0_1) (.int .i64 a0_2) (.int .i64 a0_3) (.int .i64 a0_4); obtain ⟨hfz7_0, hfz7_1, hfz7_2, hfz7_3, hfz7_4⟩ := zzf5 BK351.out) | ((with_reducible refine gate_callee (f := 27) rfl ?_); refine goesL_ (some 4) rfl rfl Try.func27 (by kernel_rfl) rfl #[.agg #[.int .i64 a0_0, .int .i64 a0_1, .int .i64 a0_2, .int .i64 a0_3, .int .i64 a0_4]] rfl zza ?_; (with_reducible refine (inst_Right.calls k a0_0 a0_1 a0_2 a0_3 a0_4 true _ A2.out).mono ?_); rintro e w8 ⟨rfl, hb⟩; refine ⟨_, rfl, ?_⟩; have n0_ := Aside0.mk (zzkb BK351.out hb); have n1_ := Aside0.mk (below_step zzg hb); clear BK351; clear HB; have BK351 := n0_; have HB := n1_; clear n0_ n1_; (try clear hb); (try clear hb2); (try clear hk); (try clear hi); obtain ⟨hcz9_0, hcz9_1, hcz9_2, hcz9_3, hcz9_4⟩ := zzc5 BK351.out (.int .i64 a0_0) (.int .i64 a0_1) (.int .i64 a0_2) (.int .i64 a0_3) (.int .i64 a0_4); obtain ⟨hfz9_0, hfz9_1, hfz9_2, hfz9_3, hfz9_4⟩ := zzf5 BK351.out) | (go_at_call 26; (with_reducible refine (inst_Form.calls a0_0 t353 _ A4.out).mono ?_); rintro e w10 ⟨rfl, hb⟩; have n0_ := Aside0.mk (zzkb BK351.out hb); have n1_ := Aside0.mk (below_step zzg hb); clear BK351; clear HB; have BK351 := n0_; have HB := n1_; clear n0_ n1_; (try clear hb); (try clear hb2); (try clear hk); (try clear hi)))
   go_ret
   exact ⟨by first | rfl | (simp [errW_none, errW_some] <;> rfl) | (simp [*, errW_none, errW_some] <;> rfl), by repeat (first | (with_reducible first | exact HB.out | apply below_alloc | apply pw_below_drewN | apply below_drew1 | refine below_set ?_ GE351.out) | exact HB.out)⟩
  ·rw [if_neg c5] at H
   have c5b0 : (t353 == 66) = false := beq_eq_false_iff_ne.mpr c5
   have c5b1 : (t353 != 66) = true := bne_iff_ne.mpr c5
   by_cases c11 : a0_0 = 2
   ·rw [if_pos c11] at H
    have c11b0 : (a0_0 == 2) = true := beq_iff_eq.mpr c11
    have c11b1 : (a0_0 != 2) = false := bne_eq_false_iff_eq.mpr c11
    clear c11
    obtain rfl := Option.some.inj H
    go_enter Try.func15, Try.ntmps15
    go_wp2_with (first | ((with_reducible refine gate_dst (N := 1) rfl ?_); refine box_event ?hg (N := 1) ?hd (cs := #[.int .i64 a0_0, .int .i64 a0_1, .int .i64 a0_2, .int .i64 a0_3, .int .i64 a0_4]) (t := 23) ?hr ?_; (case hd => rfl); (case hg => rfl); (case hr => first | (go_simp; done) | (go_simp; rfl)); intro gb351 hg w12 hbox hb; have n0_ := Aside0.mk (below_step zzb hb); have n1_ := Aside0.mk (hbox); have n2_ := Aside0.mk ((by rw [hg]; exact (below_size zzb) : w.heap.size ≤ gb351)); have n3_ := Aside0.mk ((by rw [hg]; exact (below_size zzb) : w.heap.size ≤ gb351)); clear HB; have HB := n0_; have BK351 := n1_; have GW351 := n2_; have GE351 := n3_; clear n0_ n1_ n2_ n3_; clear hb hbox hg; obtain ⟨hcz13_0, hcz13_1, hcz13_2, hcz13_3, hcz13_4⟩ := zzc5 BK351.out (.int .i64 a0_0) (.int .i64 a0_1) (.int .i64 a0_2) (.int .i64 a0_3) (.int .i64 a0_4); obtain ⟨hfz13_0, hfz13_1, hfz13_2, hfz13_3, hfz13_4⟩ := zzf5 BK351.out) | ((with_reducible refine gate_callee (f := 27) rfl ?_); refine goesL_ (some 4) rfl rfl Try.func27 (by kernel_rfl) rfl #[.agg #[.int .i64 a0_0, .int .i64 a0_1, .int .i64 a0_2, .int .i64 a0_3, .int .i64 a0_4]] rfl zza ?_; (with_reducible refine (inst_Right.calls k a0_0 a0_1 a0_2 a0_3 a0_4 true _ A2.out).mono ?_); rintro e w14 ⟨rfl, hb⟩; refine ⟨_, rfl, ?_⟩; have n0_ := Aside0.mk (zzkb BK351.out hb); have n1_ := Aside0.mk (below_step zzg hb); clear BK351; clear HB; have BK351 := n0_; have HB := n1_; clear n0_ n1_; (try clear hb); (try clear hb2); (try clear hk); (try clear hi); obtain ⟨hcz15_0, hcz15_1, hcz15_2, hcz15_3, hcz15_4⟩ := zzc5 BK351.out (.int .i64 a0_0) (.int .i64 a0_1) (.int .i64 a0_2) (.int .i64 a0_3) (.int .i64 a0_4); obtain ⟨hfz15_0, hfz15_1, hfz15_2, hfz15_3, hfz15_4⟩ := zzf5 BK351.out) | (go_at_call 26; (with_reducible refine (inst_Form.calls a0_0 t353 _ A4.out).mono ?_); rintro e w16 ⟨rfl, hb⟩; have n0_ := Aside0.mk (zzkb BK351.out hb); have n1_ := Aside0.mk (below_step zzg hb); clear BK351; clear HB; have BK351 := n0_; have HB := n1_; clear n0_ n1_; (try clear hb); (try clear hb2); (try clear hk); (try clear hi); obtain ⟨hcz17_0, hcz17_1, hcz17_2, hcz17_3, hcz17_4⟩ := zzc5 BK351.out (.int .i64 a0_0) (.int .i64 a0_1) (.int .i64 a0_2) (.int .i64 a0_3) (.int .i64 a0_4); obtain ⟨hfz17_0, hfz17_1, hfz17_2, hfz17_3, hfz17_4⟩ := zzf5 BK351.out))
    go_ret
    exact ⟨by first | rfl | (simp [errW_none, errW_some] <;> rfl) | (simp [*, errW_none, errW_some] <;> rfl), by repeat (first | (with_reducible first | exact HB.out | apply below_alloc | apply pw_below_drewN | apply below_drew1 | refine below_set ?_ GE351.out) | exact HB.out)⟩
   ·rw [if_neg c11] at H
    have c11b0 : (a0_0 == 2) = false := beq_eq_false_iff_ne.mpr c11
    have c11b1 : (a0_0 != 2) = true := bne_iff_ne.mpr c11
    by_cases c18 : a0_0 = 3
    ·rw [if_pos c18] at H
     have c18b0 : (a0_0 == 3) = true := beq_iff_eq.mpr c18
     have c18b1 : (a0_0 != 3) = false := bne_eq_false_iff_eq.mpr c18
     clear c18
     obtain rfl := Option.some.inj H
     go_enter Try.func15, Try.ntmps15
     go_wp2_with (first | ((with_reducible refine gate_dst (N := 1) rfl ?_); refine box_event ?hg (N := 1) ?hd (cs := #[.int .i64 a0_0, .int .i64 a0_1, .int .i64 a0_2, .int .i64 a0_3, .int .i64 a0_4]) (t := 23) ?hr ?_; (case hd => rfl); (case hg => rfl); (case hr => first | (go_simp; done) | (go_simp; rfl)); intro gb351 hg w19 hbox hb; have n0_ := Aside0.mk (below_step zzb hb); have n1_ := Aside0.mk (hbox); have n2_ := Aside0.mk ((by rw [hg]; exact (below_size zzb) : w.heap.size ≤ gb351)); have n3_ := Aside0.mk ((by rw [hg]; exact (below_size zzb) : w.heap.size ≤ gb351)); clear HB; have HB := n0_; have BK351 := n1_; have GW351 := n2_; have GE351 := n3_; clear n0_ n1_ n2_ n3_; clear hb hbox hg; obtain ⟨hcz20_0, hcz20_1, hcz20_2, hcz20_3, hcz20_4⟩ := zzc5 BK351.out (.int .i64 a0_0) (.int .i64 a0_1) (.int .i64 a0_2) (.int .i64 a0_3) (.int .i64 a0_4); obtain ⟨hfz20_0, hfz20_1, hfz20_2, hfz20_3, hfz20_4⟩ := zzf5 BK351.out) | ((with_reducible refine gate_callee (f := 27) rfl ?_); refine goesL_ (some 4) rfl rfl Try.func27 (by kernel_rfl) rfl #[.agg #[.int .i64 a0_0, .int .i64 a0_1, .int .i64 a0_2, .int .i64 a0_3, .int .i64 a0_4]] rfl zza ?_; (with_reducible refine (inst_Right.calls k a0_0 a0_1 a0_2 a0_3 a0_4 true _ A2.out).mono ?_); rintro e w21 ⟨rfl, hb⟩; refine ⟨_, rfl, ?_⟩; have n0_ := Aside0.mk (zzkb BK351.out hb); have n1_ := Aside0.mk (below_step zzg hb); clear BK351; clear HB; have BK351 := n0_; have HB := n1_; clear n0_ n1_; (try clear hb); (try clear hb2); (try clear hk); (try clear hi); obtain ⟨hcz22_0, hcz22_1, hcz22_2, hcz22_3, hcz22_4⟩ := zzc5 BK351.out (.int .i64 a0_0) (.int .i64 a0_1) (.int .i64 a0_2) (.int .i64 a0_3) (.int .i64 a0_4); obtain ⟨hfz22_0, hfz22_1, hfz22_2, hfz22_3, hfz22_4⟩ := zzf5 BK351.out) | (go_at_call 26; (with_reducible refine (inst_Form.calls a0_0 t353 _ A4.out).mono ?_); rintro e w23 ⟨rfl, hb⟩; have n0_ := Aside0.mk (zzkb BK351.out hb); have n1_ := Aside0.mk (below_step zzg hb); clear BK351; clear HB; have BK351 := n0_; have HB := n1_; clear n0_ n1_; (try clear hb); (try clear hb2); (try clear hk); (try clear hi); obtain ⟨hcz24_0, hcz24_1, hcz24_2, hcz24_3, hcz24_4⟩ := zzc5 BK351.out (.int .i64 a0_0) (.int .i64 a0_1) (.int .i64 a0_2) (.int .i64 a0_3) (.int .i64 a0_4); obtain ⟨hfz24_0, hfz24_1, hfz24_2, hfz24_3, hfz24_4⟩ := zzf5 BK351.out))
     go_ret
     exact ⟨by first | rfl | (simp [errW_none, errW_some] <;> rfl) | (simp [*, errW_none, errW_some] <;> rfl), by repeat (first | (with_reducible first | exact HB.out | apply below_alloc | apply pw_below_drewN | apply below_drew1 | refine below_set ?_ GE351.out) | exact HB.out)⟩
    ·rw [if_neg c18] at H
     have c18b0 : (a0_0 == 3) = false := beq_eq_false_iff_ne.mpr c18
     have c18b1 : (a0_0 != 3) = true := bne_iff_ne.mpr c18
     obtain rfl := Option.some.inj H
     go_enter Try.func15, Try.ntmps15
     go_wp2_with (first | ((with_reducible refine gate_dst (N := 1) rfl ?_); refine box_event ?hg (N := 1) ?hd (cs := #[.int .i64 a0_0, .int .i64 a0_1, .int .i64 a0_2, .int .i64 a0_3, .int .i64 a0_4]) (t := 23) ?hr ?_; (case hd => rfl); (case hg => rfl); (case hr => first | (go_simp; done) | (go_simp; rfl)); intro gb351 hg w25 hbox hb; have n0_ := Aside0.mk (below_step zzb hb); have n1_ := Aside0.mk (hbox); have n2_ := Aside0.mk ((by rw [hg]; exact (below_size zzb) : w.heap.size ≤ gb351)); have n3_ := Aside0.mk ((by rw [hg]; exact (below_size zzb) : w.heap.size ≤ gb351)); clear HB; have HB := n0_; have BK351 := n1_; have GW351 := n2_; have GE351 := n3_; clear n0_ n1_ n2_ n3_; clear hb hbox hg; obtain ⟨hcz26_0, hcz26_1, hcz26_2, hcz26_3, hcz26_4⟩ := zzc5 BK351.out (.int .i64 a0_0) (.int .i64 a0_1) (.int .i64 a0_2) (.int .i64 a0_3) (.int .i64 a0_4); obtain ⟨hfz26_0, hfz26_1, hfz26_2, hfz26_3, hfz26_4⟩ := zzf5 BK351.out) | ((with_reducible refine gate_callee (f := 27) rfl ?_); refine goesL_ (some 4) rfl rfl Try.func27 (by kernel_rfl) rfl #[.agg #[.int .i64 a0_0, .int .i64 a0_1, .int .i64 a0_2, .int .i64 a0_3, .int .i64 a0_4]] rfl zza ?_; (with_reducible refine (inst_Right.calls k a0_0 a0_1 a0_2 a0_3 a0_4 true _ A2.out).mono ?_); rintro e w27 ⟨rfl, hb⟩; refine ⟨_, rfl, ?_⟩; have n0_ := Aside0.mk (zzkb BK351.out hb); have n1_ := Aside0.mk (below_step zzg hb); clear BK351; clear HB; have BK351 := n0_; have HB := n1_; clear n0_ n1_; (try clear hb); (try clear hb2); (try clear hk); (try clear hi); obtain ⟨hcz28_0, hcz28_1, hcz28_2, hcz28_3, hcz28_4⟩ := zzc5 BK351.out (.int .i64 a0_0) (.int .i64 a0_1) (.int .i64 a0_2) (.int .i64 a0_3) (.int .i64 a0_4); obtain ⟨hfz28_0, hfz28_1, hfz28_2, hfz28_3, hfz28_4⟩ := zzf5 BK351.out) | (go_at_call 26; (with_reducible refine (inst_Form.calls a0_0 t353 _ A4.out).mono ?_); rintro e w29 ⟨rfl, hb⟩; have n0_ := Aside0.mk (zzkb BK351.out hb); have n1_ := Aside0.mk (below_step zzg hb); clear BK351; clear HB; have BK351 := n0_; have HB := n1_; clear n0_ n1_; (try clear hb); (try clear hb2); (try clear hk); (try clear hi); obtain ⟨hcz30_0, hcz30_1, hcz30_2, hcz30_3, hcz30_4⟩ := zzc5 BK351.out (.int .i64 a0_0) (.int .i64 a0_1) (.int .i64 a0_2) (.int .i64 a0_3) (.int .i64 a0_4); obtain ⟨hfz30_0, hfz30_1, hfz30_2, hfz30_3, hfz30_4⟩ := zzf5 BK351.out))
     go_ret
     exact ⟨by first | rfl | (simp [errW_none, errW_some] <;> rfl) | (simp [*, errW_none, errW_some] <;> rfl), by repeat (first | (with_reducible first | exact HB.out | apply below_alloc | apply pw_below_drewN | apply below_drew1 | refine below_set ?_ GE351.out) | exact HB.out)⟩
 ·replace c3 := Bool.eq_false_iff.mpr c3
  subst c3
  have H1 : (some true) = some r := by rw [if_neg (show ¬ (false = true) by decide)] at H; exact H
  clear H
  have H := H1
  clear H1
  obtain rfl := Option.some.inj H
  go_enter Try.func15, Try.ntmps15
  go_wp2_with (first | ((with_reducible refine gate_dst (N := 1) rfl ?_); refine box_event ?hg (N := 1) ?hd (cs := #[.int .i64 a0_0, .int .i64 a0_1, .int .i64 a0_2, .int .i64 a0_3, .int .i64 a0_4]) (t := 23) ?hr ?_; (case hd => rfl); (case hg => rfl); (case hr => first | (go_simp; done) | (go_simp; rfl)); intro gb351 hg w31 hbox hb; have n0_ := Aside0.mk (below_step zzb hb); have n1_ := Aside0.mk (hbox); have n2_ := Aside0.mk ((by rw [hg]; exact (below_size zzb) : w.heap.size ≤ gb351)); have n3_ := Aside0.mk ((by rw [hg]; exact (below_size zzb) : w.heap.size ≤ gb351)); clear HB; have HB := n0_; have BK351 := n1_; have GW351 := n2_; have GE351 := n3_; clear n0_ n1_ n2_ n3_; clear hb hbox hg; obtain ⟨hcz32_0, hcz32_1, hcz32_2, hcz32_3, hcz32_4⟩ := zzc5 BK351.out (.int .i64 a0_0) (.int .i64 a0_1) (.int .i64 a0_2) (.int .i64 a0_3) (.int .i64 a0_4); obtain ⟨hfz32_0, hfz32_1, hfz32_2, hfz32_3, hfz32_4⟩ := zzf5 BK351.out) | ((with_reducible refine gate_callee (f := 27) rfl ?_); refine goesL_ (some 4) rfl rfl Try.func27 (by kernel_rfl) rfl #[.agg #[.int .i64 a0_0, .int .i64 a0_1, .int .i64 a0_2, .int .i64 a0_3, .int .i64 a0_4]] rfl zza ?_; (with_reducible refine (inst_Right.calls k a0_0 a0_1 a0_2 a0_3 a0_4 false _ A2.out).mono ?_); rintro e w33 ⟨rfl, hb⟩; refine ⟨_, rfl, ?_⟩; have n0_ := Aside0.mk (zzkb BK351.out hb); have n1_ := Aside0.mk (below_step zzg hb); clear BK351; clear HB; have BK351 := n0_; have HB := n1_; clear n0_ n1_; (try clear hb); (try clear hb2); (try clear hk); (try clear hi)))
  go_ret
  exact ⟨by first | rfl | (simp [errW_none, errW_some] <;> rfl) | (simp [*, errW_none, errW_some] <;> rfl), by repeat (first | (with_reducible first | exact HB.out | apply below_alloc | apply pw_below_drewN | apply below_drew1 | refine below_set ?_ GE351.out) | exact HB.out)⟩
end Go.Proofs.Ytekenddkoahjgaa.Q
end
section
namespace Go.Proofs.Ytekenddkoahjgaa.Q
open Go.RowKit Go.Proofs.YtekenddkoahjgaaW.PrintWords Go.Proofs.YtekenddkoahjgaaW.PrintLast Go.Proofs.YtekenddkoahjgaaW.PrintMore
attribute [local go_sem] max2_int min2_int max_two min_two max_three min_three max_four min_four
attribute [local go_sem] imax_u32 imax_u8 isg_u32 isg_u8
set_option linter.unusedVariables false
set_option linter.unusedSimpArgs false
def word_Field.f (k : Nat) (a0 : Int) (a1 : Int) (a2 : Int) : Option (Int) := (word_may.f a1 a2).bind fun t116 => (if t116 = true then (if 0 ≤ a1 then ((word_mask.f k a2).bind fun t117 => (some (Go.bits .and .u32 (shr .u32 a0 a1) t117))) else (none)) else (some 0))
theorem word_Field.mono : ∀ a0 a1 a2 k, LeO (word_Field.f k a0 a1 a2) (word_Field.f (k + 1) a0 a1 a2) := by
 intro a0 a1 a2 k
 unfold word_Field.f
 repeat' first
   | (with_reducible exact word_mask.mono _ _)
   | (with_reducible exact LeO.refl _)
   | (with_reducible exact LeO.none _)
   | (with_reducible refine LeO.ite ?_ ?_)
   | (with_reducible refine LeO.bind ?_ (fun _ => ?_))
   | exact word_mask.mono _ _
   | exact LeO.none _
   | refine LeO.ite ?_ ?_
   | refine LeO.bind ?_ (fun _ => ?_)
set_option maxHeartbeats 8000000 in
set_option maxRecDepth 100000 in
theorem word_Field.calls (k : Nat) (a0 : Int) (a1 : Int) (a2 : Int) (r : Int) (w : World) (h : word_Field.f k a0 a1 a2 = some r) :
  Calls Try.prog 78 #[.int .u32 a0, .int .i64 a1, .int .i64 a2] w fun e w' => e = .returned (.int .u32 r) ∧ Drawn0 w w' := by
 have H : ((word_may.f a1 a2).bind fun t116 => (if t116 = true then (if 0 ≤ a1 then ((word_mask.f k a2).bind fun t117 => (some (Go.bits .and .u32 (shr .u32 a0 a1) t117))) else (none)) else (some 0))) = some r := h
 clear h
 replace H := Option.bind_eq_some_iff.mp H
 obtain ⟨t116, A40, H⟩ := H
 replace H : (if t116 = true then (if 0 ≤ a1 then ((word_mask.f k a2).bind fun t117 => (some (Go.bits .and .u32 (shr .u32 a0 a1) t117))) else (none)) else (some 0)) = some r := H
 have A4 := Aside0.mk A40
 clear A40
 by_cases c5 : t116 = true
 ·subst c5
  have H1 : (if 0 ≤ a1 then ((word_mask.f k a2).bind fun t117 => (some (Go.bits .and .u32 (shr .u32 a0 a1) t117))) else (none)) = some r := by rw [if_pos rfl] at H; exact H
  clear H
  have H := H1
  clear H1
  by_cases c6 : 0 ≤ a1
  ·rw [if_pos c6] at H
   have c6b0 := eq_true c6
   have c6b1 : decide (0 ≤ a1) = true := decide_eq_true c6
   clear c6
   obtain ⟨ji7, hji7⟩ : ∃ j_ : Int, (shr .u32 a0 a1) = j_ := ⟨_, rfl⟩
   replace H : ((word_mask.f k a2).bind fun t117 => (some (Go.bits .and .u32 (ji7) t117))) = some r := by first | (rw [hji7] at H; exact H) | (simp only [hji7] at H ⊢; exact H)
   (try rw [hji7] at A4)
   have hji7_ : (a0 / 2 ^ min a1.toNat 32) = ji7 := hji7
   have hji7z : a1 ≤ 32 → (a0 / 2 ^ a1.toNat) = ji7 := shr_small hji7
   replace H := Option.bind_eq_some_iff.mp H
   obtain ⟨t117, A80, H⟩ := H
   replace H : (some (Go.bits .and .u32 (ji7) t117)) = some r := H
   have A8 := Aside0.mk A80
   clear A80
   obtain rfl := Option.some.inj H
   go_enter Try.func78, Try.ntmps78
   go_wp2_with (first | (go_at_call 93; (with_reducible refine (word_may.calls a1 a2 true _ A4.out).mono ?_); rintro e w' ⟨rfl, ⟨nd, rfl⟩⟩; (try first | exact ⟨rfl, _, World.drewN_drewN _ _ _⟩ | exact ⟨rfl, _, Eq.trans (World.drewN_drewN _ _ _) (congrArg (World.drewN _) (Nat.add_assoc _ _ _))⟩)) | (go_at_call 94; (with_reducible refine (word_mask.calls k a2 t117 _ A8.out).mono ?_); rintro e w' ⟨rfl, ⟨nd, rfl⟩⟩; (try first | exact ⟨rfl, _, World.drewN_drewN _ _ _⟩ | exact ⟨rfl, _, Eq.trans (World.drewN_drewN _ _ _) (congrArg (World.drewN _) (Nat.add_assoc _ _ _))⟩)))
   repeat (go_quiet (first | (go_at_call 93; (with_reducible refine (word_may.calls a1 a2 true _ A4.out).mono ?_); rintro e w' ⟨rfl, ⟨nd, rfl⟩⟩; (try first | exact ⟨rfl, _, World.drewN_drewN _ _ _⟩ | exact ⟨rfl, _, Eq.trans (World.drewN_drewN _ _ _) (congrArg (World.drewN _) (Nat.add_assoc _ _ _))⟩)) | (go_at_call 94; (with_reducible refine (word_mask.calls k a2 t117 _ A8.out).mono ?_); rintro e w' ⟨rfl, ⟨nd, rfl⟩⟩; (try first | exact ⟨rfl, _, World.drewN_drewN _ _ _⟩ | exact ⟨rfl, _, Eq.trans (World.drewN_drewN _ _ _) (congrArg (World.drewN _) (Nat.add_assoc _ _ _))⟩))); try go_wp2_with (first | (go_at_call 93; (with_reducible refine (word_may.calls a1 a2 true _ A4.out).mono ?_); rintro e w' ⟨rfl, ⟨nd, rfl⟩⟩; (try first | exact ⟨rfl, _, World.drewN_drewN _ _ _⟩ | exact ⟨rfl, _, Eq.trans (World.drewN_drewN _ _ _) (congrArg (World.drewN _) (Nat.add_assoc _ _ _))⟩)) | (go_at_call 94; (with_reducible refine (word_mask.calls k a2 t117 _ A8.out).mono ?_); rintro e w' ⟨rfl, ⟨nd, rfl⟩⟩; (try first | exact ⟨rfl, _, World.drewN_drewN _ _ _⟩ | exact ⟨rfl, _, Eq.trans (World.drewN_drewN _ _ _) (congrArg (World.drewN _) (Nat.add_assoc _ _ _))⟩))))
   go_ret
   exact ⟨by first | rfl | (simp; done) | (simp only [← hji7] <;> (first | rfl | simp)) | (simp [*]; done), by repeat (first | exact Drawn0.refl _ | apply Drawn0.step)⟩
  ·rw [if_neg c6] at H
   exact absurd H (by simp)
 ·replace c5 := Bool.eq_false_iff.mpr c5
  subst c5
  have H1 : (some 0) = some r := by rw [if_neg (show ¬ (false = true) by decide)] at H; exact H
  clear H
  have H := H1
  clear H1
  obtain rfl := Option.some.inj H
  go_enter Try.func78, Try.ntmps78
  go_wp2_with (first | (go_at_call 93; (with_reducible refine (word_may.calls a1 a2 false _ A4.out).mono ?_); rintro e w' ⟨rfl, ⟨nd, rfl⟩⟩; (try first | exact ⟨rfl, _, World.drewN_drewN _ _ _⟩ | exact ⟨rfl, _, Eq.trans (World.drewN_drewN _ _ _) (congrArg (World.drewN _) (Nat.add_assoc _ _ _))⟩)))
  repeat (go_quiet (first | (go_at_call 93; (with_reducible refine (word_may.calls a1 a2 false _ A4.out).mono ?_); rintro e w' ⟨rfl, ⟨nd, rfl⟩⟩; (try first | exact ⟨rfl, _, World.drewN_drewN _ _ _⟩ | exact ⟨rfl, _, Eq.trans (World.drewN_drewN _ _ _) (congrArg (World.drewN _) (Nat.add_assoc _ _ _))⟩))); try go_wp2_with (first | (go_at_call 93; (with_reducible refine (word_may.calls a1 a2 false _ A4.out).mono ?_); rintro e w' ⟨rfl, ⟨nd, rfl⟩⟩; (try first | exact ⟨rfl, _, World.drewN_drewN _ _ _⟩ | exact ⟨rfl, _, Eq.trans (World.drewN_drewN _ _ _) (congrArg (World.drewN _) (Nat.add_assoc _ _ _))⟩))))
  go_ret
  exact ⟨by first | rfl | (simp; done) | (simp [*]; done), by repeat (first | exact Drawn0.refl _ | apply Drawn0.step)⟩
end Go.Proofs.Ytekenddkoahjgaa.Q
end
