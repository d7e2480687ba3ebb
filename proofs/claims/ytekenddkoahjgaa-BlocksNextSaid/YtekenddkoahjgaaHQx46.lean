import Derived.Test.YtekenddkoahjgaaHZc
import Derived.Test.YtekenddkoahjgaaHQx5
import Derived.Test.YtekenddkoahjgaaHQx33
import Derived.Test.YtekenddkoahjgaaHQx32
import Derived.Test.YtekenddkoahjgaaHQx37
import Derived.Test.YtekenddkoahjgaaHQx45
namespace Go.Proofs.Ytekenddkoahjgaa.Q
open Go.RowKit Go.Proofs.YtekenddkoahjgaaW.PrintWords Go.Proofs.YtekenddkoahjgaaW.PrintLast Go.Proofs.YtekenddkoahjgaaW.PrintMore
attribute [local go_sem] max2_int min2_int max_two min_two max_three min_three max_four min_four
attribute [local go_sem] imax_u32 imax_u8 isg_u32 isg_u8
set_option linter.unusedVariables false
set_option linter.unusedSimpArgs false
def w08_BlocksNext.f (k : Nat) (a0_0 : Int) (a0_1 : Int) (l0_2 : List Int) (a0_3 : Int) (l1 : List Int) (a2 : Int) : Option (Bool) := (w08_Text.f a0_0 a0_1 l0_2 a0_3).bind fun bt534 => (if 0 ≤ (mn (l1.length : Int) 8) then (if (mn (l1.length : Int) 8) ≤ (l1.length : Int) then ((r08_Find.f bt534.1 bt534.2.1 bt534.2.2.1 bt534.2.2.2 (l1.take ((mn (l1.length : Int) 8) : Int).toNat)).bind fun bt541 => (if bt541.2 = 0 then ((blocks_Next.f k bt534.1 bt534.2.1 bt534.2.2.1 bt534.2.2.2 bt541.1 a2).bind fun bt546 => ((r08_Next.f bt534.1 bt534.2.1 bt534.2.2.1 bt534.2.2.2 bt541.1 a2).bind fun bt550 => ((r08_Nums.f k bt546.1 bt550.1).bind fun t554 => (if t554 = true then (if (bt546.2 == bt550.2) = true then ((w08_fixed.f).bind fun t555 => (some t555)) else (some false)) else (some false))))) else ((w08_fixed.f).bind fun t545 => (some t545)))) else (none)) else (none))
def w08_BlocksNext.T2 : Bool × List (List Nat × List Nat) := (true, [([], []), ([], []), ([], []), ([2], [2]), ([3], [3]), ([1, 4], [1, 4]), ([0, 5], [0, 5]), ([6], [6]), ([7], [7]), ([7], [7]), ([8, 6, 0, 1, 2, 3, 4, 5, 6, 7, 8], [8]), ([9, 10, 0, 1, 2, 3, 4, 5, 6, 7, 8, 9, 10], [9])])
def w08_BlocksNext.B2 : List Nat := [0, 0, 0, 4, 12, 30, 63, 127, 255, 255, 511, 2047]
theorem w08_BlocksNext.tab2 : rtab .any (opsOf Try.f5 2) = w08_BlocksNext.T2 := by kernel_rfl
theorem w08_BlocksNext.bits2 : waitsOk w08_BlocksNext.T2.2 w08_BlocksNext.B2 = true := by kernel_rfl
set_option maxHeartbeats 8000000 in
set_option maxRecDepth 100000 in
theorem w08_BlocksNext.calls (k : Nat) (a0_0 : Int) (a0_1 : Int) (A0_2 : Option Addr) (c0_2 : Nat) (l0_2 : List Int) (a0_3 : Int) (A1 : Option Addr) (c1 : Nat) (l1 : List Int) (a2 : Int) (r : Bool) (w : World) (hr0_2 : Kd.C (Kd.int .u32) w A0_2 l0_2.length l0_2) (hc0_2 : l0_2.length ≤ c0_2) (hr1 : Kd.C (Kd.int .u32) w A1 l1.length l1) (hc1 : l1.length ≤ c1) (h : w08_BlocksNext.f k a0_0 a0_1 l0_2 a0_3 l1 a2 = some r) :
  Calls Try.prog 5 #[.agg #[.int .u32 a0_0, .int .u32 a0_1, .slice A0_2 l0_2.length c0_2, .int .i64 a0_3], .slice A1 l1.length c1, .int .i64 a2] w fun e w' => e = .returned (.bool r) ∧ Below w.heap.size w w' := by
 have hu32 := Try.underlying32
 have HR0_2 := zz hr0_2
 have HC0_2 := zz hc0_2
 clear hr0_2 hc0_2
 have HR1 := zz hr1
 have HC1 := zz hc1
 clear hr1 hc1
 have HB := zz (Below.refl w.heap.size w)
 have H : ((w08_Text.f a0_0 a0_1 l0_2 a0_3).bind fun bt534 => (if 0 ≤ (mn (l1.length : Int) 8) then (if (mn (l1.length : Int) 8) ≤ (l1.length : Int) then ((r08_Find.f bt534.1 bt534.2.1 bt534.2.2.1 bt534.2.2.2 (l1.take ((mn (l1.length : Int) 8) : Int).toNat)).bind fun bt541 => (if bt541.2 = 0 then ((blocks_Next.f k bt534.1 bt534.2.1 bt534.2.2.1 bt534.2.2.2 bt541.1 a2).bind fun bt546 => ((r08_Next.f bt534.1 bt534.2.1 bt534.2.2.1 bt534.2.2.2 bt541.1 a2).bind fun bt550 => ((r08_Nums.f k bt546.1 bt550.1).bind fun t554 => (if t554 = true then (if (bt546.2 == bt550.2) = true then ((w08_fixed.f).bind fun t555 => (some t555)) else (some false)) else (some false))))) else ((w08_fixed.f).bind fun t545 => (some t545)))) else (none)) else (none))) = some r := h
 clear h
 replace H := Option.bind_eq_some_iff.mp H
 obtain ⟨⟨t534, t535, t536, t539⟩, A40, H⟩ := H
 replace H : (if 0 ≤ (mn (l1.length : Int) 8) then (if (mn (l1.length : Int) 8) ≤ (l1.length : Int) then ((r08_Find.f t534 t535 t536 t539 (l1.take ((mn (l1.length : Int) 8) : Int).toNat)).bind fun bt541 => (if bt541.2 = 0 then ((blocks_Next.f k t534 t535 t536 t539 bt541.1 a2).bind fun bt546 => ((r08_Next.f t534 t535 t536 t539 bt541.1 a2).bind fun bt550 => ((r08_Nums.f k bt546.1 bt550.1).bind fun t554 => (if t554 = true then (if (bt546.2 == bt550.2) = true then ((w08_fixed.f).bind fun t555 => (some t555)) else (some false)) else (some false))))) else ((w08_fixed.f).bind fun t545 => (some t545)))) else (none)) else (none)) = some r := H
 have A4 := zz A40
 clear A40
 obtain ⟨ji5, hji5⟩ : ∃ j_ : Int, (mn (l1.length : Int) 8) = j_ := ⟨_, rfl⟩
 replace H : (if 0 ≤ (ji5) then (if (ji5) ≤ (l1.length : Int) then ((r08_Find.f t534 t535 t536 t539 (l1.take ((ji5) : Int).toNat)).bind fun bt541 => (if bt541.2 = 0 then ((blocks_Next.f k t534 t535 t536 t539 bt541.1 a2).bind fun bt546 => ((r08_Next.f t534 t535 t536 t539 bt541.1 a2).bind fun bt550 => ((r08_Nums.f k bt546.1 bt550.1).bind fun t554 => (if t554 = true then (if (bt546.2 == bt550.2) = true then ((w08_fixed.f).bind fun t555 => (some t555)) else (some false)) else (some false))))) else ((w08_fixed.f).bind fun t545 => (some t545)))) else (none)) else (none)) = some r := by first | (rw [hji5] at H; exact H) | (simp only [hji5] at H ⊢; exact H)
 (try rw [hji5] at A4)
 (try (have hji5h : ji5 ≤ 8 := by (rw [← hji5]; unfold mn; (repeat' split) <;> omega)))
 (try (have hji5g : ji5 ≤ 64 := by omega))
 (try (have hji5l : 0 ≤ ji5 := by (rw [← hji5]; unfold mn; (repeat' split) <;> omega)))
 (try (have hji5m : 0 ≤ ji5 := by omega))
 have hji5_ : (if 8 < (l1.length : Int) then 8 else (l1.length : Int)) = ji5 := hji5
 by_cases c6 : 0 ≤ (ji5)
 ·rw [if_pos c6] at H
  have c6b0 := eq_true c6
  have c6b1 : decide (0 ≤ (ji5)) = true := decide_eq_true c6
  clear c6
  by_cases c7 : (ji5) ≤ (l1.length : Int)
  ·rw [if_pos c7] at H
   have c7b0 := eq_true c7
   have c7b1 : decide ((ji5) ≤ (l1.length : Int)) = true := decide_eq_true c7
   clear c7
   replace H := Option.bind_eq_some_iff.mp H
   obtain ⟨⟨t541, t544⟩, A80, H⟩ := H
   replace H : (if t544 = 0 then ((blocks_Next.f k t534 t535 t536 t539 t541 a2).bind fun bt546 => ((r08_Next.f t534 t535 t536 t539 t541 a2).bind fun bt550 => ((r08_Nums.f k bt546.1 bt550.1).bind fun t554 => (if t554 = true then (if (bt546.2 == bt550.2) = true then ((w08_fixed.f).bind fun t555 => (some t555)) else (some false)) else (some false))))) else ((w08_fixed.f).bind fun t545 => (some t545))) = some r := H
   have A8 := zz A80
   clear A80
   by_cases c9 : t544 = 0
   ·rw [if_pos c9] at H
    have c9b0 : (t544 == 0) = true := beq_iff_eq.mpr c9
    have c9b1 : (t544 != 0) = false := bne_eq_false_iff_eq.mpr c9
    clear c9
    replace H := Option.bind_eq_some_iff.mp H
    obtain ⟨⟨t546, t549⟩, A100, H⟩ := H
    replace H : ((r08_Next.f t534 t535 t536 t539 t541 a2).bind fun bt550 => ((r08_Nums.f k t546 bt550.1).bind fun t554 => (if t554 = true then (if (t549 == bt550.2) = true then ((w08_fixed.f).bind fun t555 => (some t555)) else (some false)) else (some false)))) = some r := H
    have A10 := zz A100
    clear A100
    replace H := Option.bind_eq_some_iff.mp H
    obtain ⟨⟨t550, t553⟩, A110, H⟩ := H
    replace H : ((r08_Nums.f k t546 t550).bind fun t554 => (if t554 = true then (if (t549 == t553) = true then ((w08_fixed.f).bind fun t555 => (some t555)) else (some false)) else (some false))) = some r := H
    have A11 := zz A110
    clear A110
    replace H := Option.bind_eq_some_iff.mp H
    obtain ⟨t554, A120, H⟩ := H
    replace H : (if t554 = true then (if (t549 == t553) = true then ((w08_fixed.f).bind fun t555 => (some t555)) else (some false)) else (some false)) = some r := H
    have A12 := zz A120
    clear A120
    by_cases c13 : t554 = true
    ·subst c13
     have H1 : (if (t549 == t553) = true then ((w08_fixed.f).bind fun t555 => (some t555)) else (some false)) = some r := by rw [if_pos rfl] at H; exact H
     clear H
     have H := H1
     clear H1
     by_cases c14 : (t549 == t553) = true
     ·rw [if_pos c14] at H
      have c14b0 : (t549 == t553) = true := c14
      (try (have c14b1 : decide (t549 = t553) = true := by simpa using c14))
      (try (have c14b2 : (t549 == t553) = true := by simpa using c14))
      clear c14
      replace H := Option.bind_eq_some_iff.mp H
      obtain ⟨t555, A150, H⟩ := H
      replace H : (some t555) = some r := H
      have A15 := zz A150
      clear A150
      obtain rfl := Option.some.inj H
      go_enter Try.func5, Try.ntmps5
      try go_wp2_with (first | ((with_reducible refine gate_dst (N := 3) rfl ?_); refine box_event ?hg (N := 3) ?hd (cs := #[.int .u32 a0_0, .int .u32 a0_1, .slice A0_2 l0_2.length c0_2, .int .i64 a0_3]) (t := 32) ?hr ?_; (case hd => rfl); (case hg => rfl); (case hr => first | (go_simp; done) | (go_simp; rfl)); intro gb533 hg w16 hbox hb; have n0_ := zz (below_step zzb hb); have n1_ := zz (hbox); have n2_ := zz ((zzn hg : w.heap.size ≤ gb533)); have n3_ := zz ((zzn hg : w.heap.size ≤ gb533)); clear HB; have HB := n0_; have BK533 := n1_; have GW533 := n2_; have GE533 := n3_; clear n0_ n1_ n2_ n3_; clear hb hbox hg; obtain ⟨hcz17_0, hcz17_1, hcz17_2, hcz17_3⟩ := zzc4 BK533.out (.int .u32 a0_0) (.int .u32 a0_1) (.slice A0_2 l0_2.length c0_2) (.int .i64 a0_3); obtain ⟨hfz17_0, hfz17_1, hfz17_2, hfz17_3⟩ := zzf4 BK533.out) | ((with_reducible refine gate_callee (f := 17) rfl ?_); refine goesL_ (some 14) rfl rfl Try.func17 (by kernel_rfl) rfl #[.agg #[.int .u32 a0_0, .int .u32 a0_1, .slice A0_2 l0_2.length c0_2, .int .i64 a0_3]] rfl zza ?_; (with_reducible refine (w08_Text.calls a0_0 a0_1 _ _ l0_2 a0_3 t534 t535 t536 t539 _ ?side1 ?side2 A4.out).mono ?_); (case side1 => repeat (first | exact (Kd.C_below HR0_2.out HB.out) | (with_reducible refine Kd.C_alloc ?_ _) | (with_reducible refine Kd.C_drewN ?_ _) | (with_reducible refine Kd.C_drew ?_))); (case side2 => exact HC0_2.out); rintro e w18 ⟨v537, rfl, ho0, hb⟩; refine ⟨_, rfl, ?_⟩; have n0_ := zz (Kd.R_lower ho0 (below_size zzg)); have n1_ := zz (zzkb BK533.out hb); have n2_ := zz (below_step zzg hb); clear BK533; clear HB; have HO538 := n0_; have BK533 := n1_; have HB := n2_; clear n0_ n1_ n2_; (try clear hb); (try clear hb2); (try clear hk); (try clear hi); (try clear ho0); obtain ⟨hcz19_0, hcz19_1, hcz19_2, hcz19_3⟩ := zzc4 BK533.out (.int .u32 a0_0) (.int .u32 a0_1) (.slice A0_2 l0_2.length c0_2) (.int .i64 a0_3); obtain ⟨hfz19_0, hfz19_1, hfz19_2, hfz19_3⟩ := zzf4 BK533.out; obtain ⟨Ao20, co20, eo20⟩ := Kd.R_slice HO538.out; subst eo20))
      have n0_ : Aside0 (Kd.R (Kd.int .u32) 24 ((((w18.setCell ⟨gb533, 0, none⟩ (.int .u32 t534)).setCell ⟨gb533, 1, none⟩ (.int .u32 t535)).setCell ⟨gb533, 2, none⟩ (.slice Ao20 t536.length co20)).setCell ⟨gb533, 3, none⟩ (.int .i64 t539)) w.heap.size (fun _ => True) (.slice Ao20 t536.length co20) t536) := ⟨by refine zzr ?_; exact Kd.R_mono (Kd.R_far (p := ⟨gb533, 3, none⟩) (Kd.R_far (p := ⟨gb533, 2, none⟩) (Kd.R_far (p := ⟨gb533, 1, none⟩) (Kd.R_far (p := ⟨gb533, 0, none⟩) (Kd.R_types HO538.out BK533.out (by decide)) (fun _ hk => hk.2) (.int .u32 t534)) (fun _ hk => hk.2) (.int .u32 t535)) (fun _ hk => hk.2) (.slice Ao20 t536.length co20)) (fun _ hk => hk.2) (.int .i64 t539)) (fun _ hk => trivial)⟩
      have n1_ : Aside0 (((((w18.setCell ⟨gb533, 0, none⟩ (.int .u32 t534)).setCell ⟨gb533, 1, none⟩ (.int .u32 t535)).setCell ⟨gb533, 2, none⟩ (.slice Ao20 t536.length co20)).setCell ⟨gb533, 3, none⟩ (.int .i64 t539)).heap[gb533]? = some (.cells #[.int .u32 t534, .int .u32 t535, .slice Ao20 t536.length co20, .int .i64 t539] 32 (0, 0))) := ⟨by refine zzk ?_; refine blk_put (cs := #[.int .u32 t534, .int .u32 t535, .slice Ao20 t536.length co20, .int .i64 a0_3]) ?_ 3 _ rfl; refine zzk ?_; refine blk_put (cs := #[.int .u32 t534, .int .u32 t535, .slice A0_2 l0_2.length c0_2, .int .i64 a0_3]) ?_ 2 _ rfl; refine zzk ?_; refine blk_put (cs := #[.int .u32 t534, .int .u32 a0_1, .slice A0_2 l0_2.length c0_2, .int .i64 a0_3]) ?_ 1 _ rfl; refine zzk ?_; refine blk_put (cs := #[.int .u32 a0_0, .int .u32 a0_1, .slice A0_2 l0_2.length c0_2, .int .i64 a0_3]) ?_ 0 _ rfl; refine zzk ?_; exact BK533.out⟩
      have n2_ : Aside0 (Below w.heap.size w ((((w18.setCell ⟨gb533, 0, none⟩ (.int .u32 t534)).setCell ⟨gb533, 1, none⟩ (.int .u32 t535)).setCell ⟨gb533, 2, none⟩ (.slice Ao20 t536.length co20)).setCell ⟨gb533, 3, none⟩ (.int .i64 t539))) := ⟨zzg⟩
      (try clear HO538)
      (try clear BK533)
      (try clear HB)
      generalize ((((w18.setCell ⟨gb533, 0, none⟩ (.int .u32 t534)).setCell ⟨gb533, 1, none⟩ (.int .u32 t535)).setCell ⟨gb533, 2, none⟩ (.slice Ao20 t536.length co20)).setCell ⟨gb533, 3, none⟩ (.int .i64 t539)) = w21 at n0_ n1_ n2_ ⊢
      have HO538 := n0_
      have BK533 := n1_
      have HB := n2_
      clear n0_ n1_ n2_
      have n0_ := zz (Kd.R_drew HO538.out)
      have n1_ := zz (blk_drew BK533.out)
      have n2_ := zz (below_drew1 HB.out)
      clear HO538
      clear BK533
      clear HB
      have HO538 := n0_
      have BK533 := n1_
      have HB := n2_
      clear n0_ n1_ n2_
      obtain ⟨i023, hi023, _, hsz23, _⟩ := info_parts info24
      obtain ⟨hcut23, hA23, hC23⟩ := print_take_of (P := Try.prog) (Value.int .u32) 0 27 24 .i64 Try.underlying27 hi023 hsz23 A1 c1 l1 (ji5) (of_decide_eq_true zzm) (of_decide_eq_true zzm) HC1.out
      have HR540 := zz (Kd.C_of_reads (h1 := fun _ => rfl) (hA23 _ (Kd.reads_of_C HR1.out)))
      have HC540 := zz hC23
      clear hA23 hC23 hi023 hsz23
      refine start_ (n := 12) (S := fun w' => w'.cell? ⟨gb533, 0, none⟩ = some (.int .u32 t534) ∧ w'.cell? ⟨gb533, 1, none⟩ = some (.int .u32 t535) ∧ w'.cell? ⟨gb533, 2, none⟩ = some (.slice Ao20 t536.length co20) ∧ w'.cell? ⟨gb533, 3, none⟩ = some (.int .i64 t539)) (ds := []) #[false, false, false, false, false, false, false, false, false, false, false, false] (by kernel_rfl) rfl rfl ⟨(blk_cell BK533.out 0).trans rfl, (blk_cell BK533.out 1).trans rfl, (blk_cell BK533.out 2).trans rfl, (blk_cell BK533.out 3).trans rfl⟩ (fun hHeld => ?_); refine with_tabW w08_BlocksNext.tab2 w08_BlocksNext.bits2 (fun HT_ HW_ => ?_)
      generalize w21.drew = w22 at HO538 BK533 HB HR540 hHeld ⊢
      refine pure_ (i := 1) (N := some 17) (v := ?_) (a' := ?_) #[false, true, false, false, false, false, false, false, false, false, false, false] rfl rfl (any_of HT_.out (by kernel_rfl)) (fun _ _ _ h => h) (Or.inl ⟨by rfl, ?_⟩) ?_ ?_
      rotate_left
      ·intro w'
       go_simp
       with_reducible rfl
      rotate_left
      ·simp only [Act.put, List.setIfInBounds_toArray, List.set_cons_zero, List.set_cons_succ, i64_w, i32_w]
       rfl
      refine pure_ (i := 2) (N := some 18) (v := ?_) (a' := ?_) #[false, true, true, false, false, false, false, false, false, false, false, false] rfl rfl (any_of HT_.out (by kernel_rfl)) (fun _ _ _ h => h) (Or.inl ⟨by rfl, ?_⟩) ?_ ?_
      rotate_left
      ·intro w'
       go_simp
       with_reducible rfl
      rotate_left
      ·simp only [Act.put, List.setIfInBounds_toArray, List.set_cons_zero, List.set_cons_succ, i64_w, i32_w]
       rfl
      refine pure_ (i := 3) (N := some 19) (v := ?_) (a' := ?_) #[false, true, true, true, false, false, false, false, false, false, false, false] rfl rfl (any_of HT_.out (by kernel_rfl)) (fun _ _ _ h => h) (Or.inl ⟨by rfl, ?_⟩) ?_ ?_
      rotate_left
      ·intro w'
       go_simp
       with_reducible rfl
      rotate_left
      ·simp only [Act.put, List.setIfInBounds_toArray, List.set_cons_zero, List.set_cons_succ, i64_w, i32_w]
       rfl
      refine pure_ (i := 4) (N := some 20) (v := ?_) (a' := ?_) #[false, true, true, true, true, false, false, false, false, false, false, false] rfl rfl (any_of HT_.out (by kernel_rfl)) (fun _ _ _ h => h) (Or.inl ⟨by rfl, ?_⟩) ?_ ?_
      rotate_left
      ·intro w'
       go_simp
       with_reducible rfl
      rotate_left
      ·simp only [Act.put, List.setIfInBounds_toArray, List.set_cons_zero, List.set_cons_succ, i64_w, i32_w]
       rfl
      refine pure_ (i := 5) (N := some 21) (v := ?_) (a' := ?_) #[false, true, true, true, true, true, false, false, false, false, false, false] rfl rfl (any_of HT_.out (by kernel_rfl)) (fun _ _ _ h => h) (Or.inl ⟨by rfl, ?_⟩) ?_ ?_
      rotate_left
      ·intro w'
       go_simp
       with_reducible rfl
      rotate_left
      ·simp only [Act.put, List.setIfInBounds_toArray, List.set_cons_zero, List.set_cons_succ, i64_w, i32_w]
       rfl
      refine take_ (i := 0) (N := some 16) (v := ?_) (a' := ?_) #[true, true, true, true, true, true, false, false, false, false, false, false] rfl rfl (take_ofW HT_.out HW_.out (by kernel_rfl)) (fun _ _ _ h => h) (Or.inl ⟨by rfl, ?_⟩) hHeld ?_ ?_
      rotate_left
      ·rintro w' ⟨s0, s1, s2, s3⟩
       go_simp
       with_reducible rfl
      rotate_left
      ·simp only [Act.put, List.setIfInBounds_toArray, List.set_cons_zero, List.set_cons_succ, i64_w, i32_w]
       rfl
      refine one_ (i := 6) (N := some 22) #[true, true, true, true, true, true, true, false, false, false, false, false] rfl rfl (one_of HT_.out (by kernel_rfl)) (by decide) (fun K hK => ?_)
      refine goes_ Try.func18 (by kernel_rfl) rfl #[.agg #[.int .u32 t534, .int .u32 t535, .slice Ao20 t536.length co20, .int .i64 t539], .slice A1 (l1.take ((ji5) : Int).toNat).length c1] (by rfl) rfl rfl (by (try simp only [List.map_toArray, List.map_cons, List.map_nil]); first | done | (rw [show (l1.take ((ji5) : Int).toNat).length = (ji5).toNat from (by rw [List.length_take]; have h_ : ((ji5) : Int) ≤ (l1.length : Int) := (by first | exact of_decide_eq_true zzm | (have q_ := hji5_; split at q_ <;> omega)); omega)] <;> rfl) | (simp only [hji5]; rfl) | rfl | (simp only [List.length_drop, List.length_take]; rfl)) ?_
      with_reducible refine (r08_Find.calls t534 t535 _ _ t536 t539 _ _ (l1.take ((ji5) : Int).toNat) t541 t544 _ ?side1 ?side2 ?side3 ?side4 A8.out).mono ?_
      (case side1 => repeat (first | exact (Kd.R_reads' HO538.out).2.2 | (with_reducible refine Kd.C_alloc ?_ _) | (with_reducible refine Kd.C_drewN ?_ _) | (with_reducible refine Kd.C_drew ?_)))
      (case side2 => exact (Kd.R_reads' HO538.out).2.1)
      (case side3 => repeat (first | exact (Kd.C_below HR540.out HB.out) | (with_reducible refine Kd.C_alloc ?_ _) | (with_reducible refine Kd.C_drewN ?_ _) | (with_reducible refine Kd.C_drew ?_)))
      (case side4 => exact HC540.out)
      rintro e w24 ⟨v542, rfl, ho0, hb⟩
      refine ⟨_, rfl, ?_⟩
      have n0_ := zz (Kd.R_below (zzr HO538.out) hb)
      have n1_ := zz (Kd.R_lower ho0 (below_size zzg))
      have n2_ := zz (zzkb BK533.out hb)
      have n3_ := zz (below_step zzg hb)
      clear HO538
      clear BK533
      clear HB
      have HO538 := n0_
      have HO543 := n1_
      have BK533 := n2_
      have HB := n3_
      clear n0_ n1_ n2_ n3_
      (try clear hb)
      (try clear hb2)
      (try clear hk)
      (try clear hi)
      (try clear ho0)
      refine hK.out _ _ ⟨(blk_cell BK533.out 0).trans rfl, (blk_cell BK533.out 1).trans rfl, (blk_cell BK533.out 2).trans rfl, (blk_cell BK533.out 3).trans rfl⟩ (fun hHeld => ?_)
      clear hK K
      refine norm_ (a' := ?_) ?_ ?_
      rotate_left
      ·show Act.put _ (some 22) _ = _
       simp only [Act.put, List.setIfInBounds_toArray, List.set_cons_zero, List.set_cons_succ, i64_w, i32_w]
       rfl
      refine pure_ (i := 7) (N := some 15) (v := ?_) (a' := ?_) #[true, true, true, true, true, true, true, true, false, false, false, false] rfl rfl (any_of HT_.out (by kernel_rfl)) (fun _ _ _ h => h) (Or.inl ⟨by rfl, ?_⟩) ?_ ?_
      rotate_left
      ·intro w'
       go_simp
       with_reducible rfl
      rotate_left
      ·simp only [Act.put, List.setIfInBounds_toArray, List.set_cons_zero, List.set_cons_succ, i64_w, i32_w]
       rfl
      refine pure_ (i := 8) (N := some 23) (v := ?_) (a' := ?_) #[true, true, true, true, true, true, true, true, true, false, false, false] rfl rfl (any_of HT_.out (by kernel_rfl)) (fun _ _ _ h => h) (Or.inl ⟨by rfl, ?_⟩) ?_ ?_
      rotate_left
      ·intro w'
       go_simp
       with_reducible rfl
      rotate_left
      ·simp only [Act.put, List.setIfInBounds_toArray, List.set_cons_zero, List.set_cons_succ, i64_w, i32_w]
       rfl
      refine pure_ (i := 9) (N := some 24) (v := ?_) (a' := ?_) #[true, true, true, true, true, true, true, true, true, true, false, false] rfl rfl (any_of HT_.out (by kernel_rfl)) (fun _ _ _ h => h) (Or.inl ⟨by rfl, ?_⟩) ?_ ?_
      rotate_left
      ·intro w'
       go_simp
       with_reducible rfl
      rotate_left
      ·simp only [Act.put, List.setIfInBounds_toArray, List.set_cons_zero, List.set_cons_succ, i64_w, i32_w]
       rfl
      refine pure_ (i := 10) (N := some 7) (v := ?_) (a' := ?_) #[true, true, true, true, true, true, true, true, true, true, true, false] rfl rfl (any_of HT_.out (by kernel_rfl)) (fun _ _ _ h => h) (Or.inl ⟨by rfl, ?_⟩) ?_ ?_
      rotate_left
      ·intro w'
       go_simp
       with_reducible rfl
      rotate_left
      ·simp only [Act.put, List.setIfInBounds_toArray, List.set_cons_zero, List.set_cons_succ, i64_w, i32_w]
       rfl
      refine pure_ (i := 11) (N := some 8) (v := ?_) (a' := ?_) #[true, true, true, true, true, true, true, true, true, true, true, true] rfl rfl (any_of HT_.out (by kernel_rfl)) (fun _ _ _ h => h) (Or.inl ⟨by rfl, ?_⟩) ?_ ?_
      rotate_left
      ·intro w'
       go_simp
       with_reducible rfl
      rotate_left
      ·simp only [Act.put, List.setIfInBounds_toArray, List.set_cons_zero, List.set_cons_succ, i64_w, i32_w]
       rfl
      refine done_ (done_of HT_.out (by kernel_rfl)) ?_
      obtain ⟨hcz25_0, hcz25_1, hcz25_2, hcz25_3⟩ := zzc4 BK533.out (.int .u32 t534) (.int .u32 t535) (.slice Ao20 t536.length co20) (.int .i64 t539)
      obtain ⟨hfz25_0, hfz25_1, hfz25_2, hfz25_3⟩ := zzf4 BK533.out
      obtain ⟨Ao26, co26, eo26⟩ := Kd.R_slice HO543.out
      subst eo26
      try go_wp2_with (first | ((with_reducible refine gate_callee (f := 21) rfl ?_); refine goesL_ (some 32) rfl rfl Try.func21 (by kernel_rfl) rfl #[.agg #[.int .u32 t534, .int .u32 t535, .slice Ao20 t536.length co20, .int .i64 t539], .slice Ao26 t541.length co26, .int .i64 a2] rfl zza ?_; (with_reducible refine (blocks_Next.calls k t534 t535 _ _ t536 t539 _ _ t541 a2 t546 t549 _ ?side1 ?side2 ?side3 ?side4 A10.out).mono ?_); (case side1 => repeat (first | exact (Kd.R_reads' HO538.out).2.2 | (with_reducible refine Kd.C_alloc ?_ _) | (with_reducible refine Kd.C_drewN ?_ _) | (with_reducible refine Kd.C_drew ?_))); (case side2 => exact (Kd.R_reads' HO538.out).2.1); (case side3 => repeat (first | exact (Kd.R_reads' HO543.out).2.2 | (with_reducible refine Kd.C_alloc ?_ _) | (with_reducible refine Kd.C_drewN ?_ _) | (with_reducible refine Kd.C_drew ?_))); (case side4 => exact (Kd.R_reads' HO543.out).2.1); rintro e w27 ⟨v547, rfl, ho0, hb⟩; refine ⟨_, rfl, ?_⟩; have n0_ := zz (Kd.R_below (zzr HO538.out) hb); have n1_ := zz (Kd.R_below (zzr HO543.out) hb); have n2_ := zz (Kd.R_lower ho0 (below_size zzg)); have n3_ := zz (zzkb BK533.out hb); have n4_ := zz (below_step zzg hb); clear HO538; clear HO543; clear BK533; clear HB; have HO538 := n0_; have HO543 := n1_; have HO548 := n2_; have BK533 := n3_; have HB := n4_; clear n0_ n1_ n2_ n3_ n4_; (try clear hb); (try clear hb2); (try clear hk); (try clear hi); (try clear ho0); obtain ⟨hcz28_0, hcz28_1, hcz28_2, hcz28_3⟩ := zzc4 BK533.out (.int .u32 t534) (.int .u32 t535) (.slice Ao20 t536.length co20) (.int .i64 t539); obtain ⟨hfz28_0, hfz28_1, hfz28_2, hfz28_3⟩ := zzf4 BK533.out) | ((with_reducible refine gate_callee (f := 22) rfl ?_); refine goesL_ (some 39) rfl rfl Try.func22 (by kernel_rfl) rfl #[.agg #[.int .u32 t534, .int .u32 t535, .slice Ao20 t536.length co20, .int .i64 t539], .slice Ao26 t541.length co26, .int .i64 a2] rfl zza ?_; (with_reducible refine (r08_Next.calls t534 t535 _ _ t536 t539 _ _ t541 a2 t550 t553 _ ?side1 ?side2 ?side3 ?side4 A11.out).mono ?_); (case side1 => repeat (first | exact (Kd.R_reads' HO538.out).2.2 | (with_reducible refine Kd.C_alloc ?_ _) | (with_reducible refine Kd.C_drewN ?_ _) | (with_reducible refine Kd.C_drew ?_))); (case side2 => exact (Kd.R_reads' HO538.out).2.1); (case side3 => repeat (first | exact (Kd.R_reads' HO543.out).2.2 | (with_reducible refine Kd.C_alloc ?_ _) | (with_reducible refine Kd.C_drewN ?_ _) | (with_reducible refine Kd.C_drew ?_))); (case side4 => exact (Kd.R_reads' HO543.out).2.1); rintro e w29 ⟨v551, rfl, ho0, hb⟩; refine ⟨_, rfl, ?_⟩; have n0_ := zz (Kd.R_below (zzr HO538.out) hb); have n1_ := zz (Kd.R_below (zzr HO543.out) hb); have n2_ := zz (Kd.R_elder' (zzr HO548.out) (Kd.R_base ho0) hb); have n3_ := zz (Kd.R_lower (Kd.R_new' ho0 (Kd.R_lt (zzr HO548.out))) (below_size zzg)); have n4_ := zz (zzkb BK533.out hb); have n5_ := zz (below_step zzg hb); clear HO538; clear HO543; clear HO548; clear BK533; clear HB; have HO538 := n0_; have HO543 := n1_; have HO548 := n2_; have HO552 := n3_; have BK533 := n4_; have HB := n5_; clear n0_ n1_ n2_ n3_ n4_ n5_; (try clear hb); (try clear hb2); (try clear hk); (try clear hi); (try clear ho0); obtain ⟨Ao30, co30, eo30⟩ := Kd.R_slice HO548.out; subst eo30; obtain ⟨Ao31, co31, eo31⟩ := Kd.R_slice HO552.out; subst eo31) | ((with_reducible refine gate_callee (f := 23) rfl ?_); refine goesL_ (some 44) rfl rfl Try.func23 (by kernel_rfl) rfl #[.slice Ao30 t546.length co30, .slice Ao31 t550.length co31] rfl zza ?_; (with_reducible refine (r08_Nums.calls k _ _ t546 _ _ t550 true _ ?side1 ?side2 ?side3 ?side4 A12.out).mono ?_); (case side1 => repeat (first | exact (Kd.R_reads' HO548.out).2.2 | (with_reducible refine Kd.C_alloc ?_ _) | (with_reducible refine Kd.C_drewN ?_ _) | (with_reducible refine Kd.C_drew ?_))); (case side2 => exact (Kd.R_reads' HO548.out).2.1); (case side3 => repeat (first | exact (Kd.R_reads' HO552.out).2.2 | (with_reducible refine Kd.C_alloc ?_ _) | (with_reducible refine Kd.C_drewN ?_ _) | (with_reducible refine Kd.C_drew ?_))); (case side4 => exact (Kd.R_reads' HO552.out).2.1); rintro e w' ⟨rfl, ⟨nd, rfl⟩⟩; refine ⟨_, rfl, ?_⟩) | (go_at_call 11; (with_reducible refine (w08_fixed.calls  t555 _ A15.out).mono ?_); rintro e w32 ⟨rfl, hb⟩; have n0_ := zz (Kd.R_below (zzr HO538.out) hb); have n1_ := zz (Kd.R_below (zzr HO543.out) hb); have n2_ := zz (Kd.R_below (zzr HO548.out) hb); have n3_ := zz (Kd.R_below (zzr HO552.out) hb); have n4_ := zz (zzkb BK533.out hb); have n5_ := zz (below_step zzg hb); clear HO538; clear HO543; clear HO548; clear HO552; clear BK533; clear HB; have HO538 := n0_; have HO543 := n1_; have HO548 := n2_; have HO552 := n3_; have BK533 := n4_; have HB := n5_; clear n0_ n1_ n2_ n3_ n4_ n5_; (try clear hb); (try clear hb2); (try clear hk); (try clear hi)))
      go_ret
      exact ⟨by first | rfl | (simp [errW_none, errW_some] <;> rfl) | (simp only [← hji5]; first | rfl | (simp [errW_none, errW_some] <;> rfl)) | (simp [*, errW_none, errW_some] <;> rfl), zzg⟩
     ·rw [if_neg c14] at H
      have c14b0 : (t549 == t553) = false := by simpa using c14
      (try (have c14b1 : decide (t549 = t553) = false := by simpa using c14))
      (try (have c14b2 : (t549 == t553) = false := by simpa using c14))
      (try (have c14b3 : ¬ (t549 = t553) := by simpa using c14))
      clear c14
      obtain rfl := Option.some.inj H
      go_enter Try.func5, Try.ntmps5
      try go_wp2_with (first | ((with_reducible refine gate_dst (N := 3) rfl ?_); refine box_event ?hg (N := 3) ?hd (cs := #[.int .u32 a0_0, .int .u32 a0_1, .slice A0_2 l0_2.length c0_2, .int .i64 a0_3]) (t := 32) ?hr ?_; (case hd => rfl); (case hg => rfl); (case hr => first | (go_simp; done) | (go_simp; rfl)); intro gb533 hg w33 hbox hb; have n0_ := zz (below_step zzb hb); have n1_ := zz (hbox); have n2_ := zz ((zzn hg : w.heap.size ≤ gb533)); have n3_ := zz ((zzn hg : w.heap.size ≤ gb533)); clear HB; have HB := n0_; have BK533 := n1_; have GW533 := n2_; have GE533 := n3_; clear n0_ n1_ n2_ n3_; clear hb hbox hg; obtain ⟨hcz34_0, hcz34_1, hcz34_2, hcz34_3⟩ := zzc4 BK533.out (.int .u32 a0_0) (.int .u32 a0_1) (.slice A0_2 l0_2.length c0_2) (.int .i64 a0_3); obtain ⟨hfz34_0, hfz34_1, hfz34_2, hfz34_3⟩ := zzf4 BK533.out) | ((with_reducible refine gate_callee (f := 17) rfl ?_); refine goesL_ (some 14) rfl rfl Try.func17 (by kernel_rfl) rfl #[.agg #[.int .u32 a0_0, .int .u32 a0_1, .slice A0_2 l0_2.length c0_2, .int .i64 a0_3]] rfl zza ?_; (with_reducible refine (w08_Text.calls a0_0 a0_1 _ _ l0_2 a0_3 t534 t535 t536 t539 _ ?side1 ?side2 A4.out).mono ?_); (case side1 => repeat (first | exact (Kd.C_below HR0_2.out HB.out) | (with_reducible refine Kd.C_alloc ?_ _) | (with_reducible refine Kd.C_drewN ?_ _) | (with_reducible refine Kd.C_drew ?_))); (case side2 => exact HC0_2.out); rintro e w35 ⟨v537, rfl, ho0, hb⟩; refine ⟨_, rfl, ?_⟩; have n0_ := zz (Kd.R_lower ho0 (below_size zzg)); have n1_ := zz (zzkb BK533.out hb); have n2_ := zz (below_step zzg hb); clear BK533; clear HB; have HO538 := n0_; have BK533 := n1_; have HB := n2_; clear n0_ n1_ n2_; (try clear hb); (try clear hb2); (try clear hk); (try clear hi); (try clear ho0); obtain ⟨hcz36_0, hcz36_1, hcz36_2, hcz36_3⟩ := zzc4 BK533.out (.int .u32 a0_0) (.int .u32 a0_1) (.slice A0_2 l0_2.length c0_2) (.int .i64 a0_3); obtain ⟨hfz36_0, hfz36_1, hfz36_2, hfz36_3⟩ := zzf4 BK533.out; obtain ⟨Ao37, co37, eo37⟩ := Kd.R_slice HO538.out; subst eo37))
      have n0_ : Aside0 (Kd.R (Kd.int .u32) 24 ((((w35.setCell ⟨gb533, 0, none⟩ (.int .u32 t534)).setCell ⟨gb533, 1, none⟩ (.int .u32 t535)).setCell ⟨gb533, 2, none⟩ (.slice Ao37 t536.length co37)).setCell ⟨gb533, 3, none⟩ (.int .i64 t539)) w.heap.size (fun _ => True) (.slice Ao37 t536.length co37) t536) := ⟨by refine zzr ?_; exact Kd.R_mono (Kd.R_far (p := ⟨gb533, 3, none⟩) (Kd.R_far (p := ⟨gb533, 2, none⟩) (Kd.R_far (p := ⟨gb533, 1, none⟩) (Kd.R_far (p := ⟨gb533, 0, none⟩) (Kd.R_types HO538.out BK533.out (by decide)) (fun _ hk => hk.2) (.int .u32 t534)) (fun _ hk => hk.2) (.int .u32 t535)) (fun _ hk => hk.2) (.slice Ao37 t536.length co37)) (fun _ hk => hk.2) (.int .i64 t539)) (fun _ hk => trivial)⟩
      have n1_ : Aside0 (((((w35.setCell ⟨gb533, 0, none⟩ (.int .u32 t534)).setCell ⟨gb533, 1, none⟩ (.int .u32 t535)).setCell ⟨gb533, 2, none⟩ (.slice Ao37 t536.length co37)).setCell ⟨gb533, 3, none⟩ (.int .i64 t539)).heap[gb533]? = some (.cells #[.int .u32 t534, .int .u32 t535, .slice Ao37 t536.length co37, .int .i64 t539] 32 (0, 0))) := ⟨by refine zzk ?_; refine blk_put (cs := #[.int .u32 t534, .int .u32 t535, .slice Ao37 t536.length co37, .int .i64 a0_3]) ?_ 3 _ rfl; refine zzk ?_; refine blk_put (cs := #[.int .u32 t534, .int .u32 t535, .slice A0_2 l0_2.length c0_2, .int .i64 a0_3]) ?_ 2 _ rfl; refine zzk ?_; refine blk_put (cs := #[.int .u32 t534, .int .u32 a0_1, .slice A0_2 l0_2.length c0_2, .int .i64 a0_3]) ?_ 1 _ rfl; refine zzk ?_; refine blk_put (cs := #[.int .u32 a0_0, .int .u32 a0_1, .slice A0_2 l0_2.length c0_2, .int .i64 a0_3]) ?_ 0 _ rfl; refine zzk ?_; exact BK533.out⟩
      have n2_ : Aside0 (Below w.heap.size w ((((w35.setCell ⟨gb533, 0, none⟩ (.int .u32 t534)).setCell ⟨gb533, 1, none⟩ (.int .u32 t535)).setCell ⟨gb533, 2, none⟩ (.slice Ao37 t536.length co37)).setCell ⟨gb533, 3, none⟩ (.int .i64 t539))) := ⟨zzg⟩
      (try clear HO538)
      (try clear BK533)
      (try clear HB)
      generalize ((((w35.setCell ⟨gb533, 0, none⟩ (.int .u32 t534)).setCell ⟨gb533, 1, none⟩ (.int .u32 t535)).setCell ⟨gb533, 2, none⟩ (.slice Ao37 t536.length co37)).setCell ⟨gb533, 3, none⟩ (.int .i64 t539)) = w38 at n0_ n1_ n2_ ⊢
      have HO538 := n0_
      have BK533 := n1_
      have HB := n2_
      clear n0_ n1_ n2_
      have n0_ := zz (Kd.R_drew HO538.out)
      have n1_ := zz (blk_drew BK533.out)
      have n2_ := zz (below_drew1 HB.out)
      clear HO538
      clear BK533
      clear HB
      have HO538 := n0_
      have BK533 := n1_
      have HB := n2_
      clear n0_ n1_ n2_
      obtain ⟨i040, hi040, _, hsz40, _⟩ := info_parts info24
      obtain ⟨hcut40, hA40, hC40⟩ := print_take_of (P := Try.prog) (Value.int .u32) 0 27 24 .i64 Try.underlying27 hi040 hsz40 A1 c1 l1 (ji5) (of_decide_eq_true zzm) (of_decide_eq_true zzm) HC1.out
      have HR540 := zz (Kd.C_of_reads (h1 := fun _ => rfl) (hA40 _ (Kd.reads_of_C HR1.out)))
      have HC540 := zz hC40
      clear hA40 hC40 hi040 hsz40
      refine start_ (n := 12) (S := fun w' => w'.cell? ⟨gb533, 0, none⟩ = some (.int .u32 t534) ∧ w'.cell? ⟨gb533, 1, none⟩ = some (.int .u32 t535) ∧ w'.cell? ⟨gb533, 2, none⟩ = some (.slice Ao37 t536.length co37) ∧ w'.cell? ⟨gb533, 3, none⟩ = some (.int .i64 t539)) (ds := []) #[false, false, false, false, false, false, false, false, false, false, false, false] (by kernel_rfl) rfl rfl ⟨(blk_cell BK533.out 0).trans rfl, (blk_cell BK533.out 1).trans rfl, (blk_cell BK533.out 2).trans rfl, (blk_cell BK533.out 3).trans rfl⟩ (fun hHeld => ?_); refine with_tabW w08_BlocksNext.tab2 w08_BlocksNext.bits2 (fun HT_ HW_ => ?_)
      generalize w38.drew = w39 at HO538 BK533 HB HR540 hHeld ⊢
      refine pure_ (i := 1) (N := some 17) (v := ?_) (a' := ?_) #[false, true, false, false, false, false, false, false, false, false, false, false] rfl rfl (any_of HT_.out (by kernel_rfl)) (fun _ _ _ h => h) (Or.inl ⟨by rfl, ?_⟩) ?_ ?_
      rotate_left
      ·intro w'
       go_simp
       with_reducible rfl
      rotate_left
      ·simp only [Act.put, List.setIfInBounds_toArray, List.set_cons_zero, List.set_cons_succ, i64_w, i32_w]
       rfl
      refine pure_ (i := 2) (N := some 18) (v := ?_) (a' := ?_) #[false, true, true, false, false, false, false, false, false, false, false, false] rfl rfl (any_of HT_.out (by kernel_rfl)) (fun _ _ _ h => h) (Or.inl ⟨by rfl, ?_⟩) ?_ ?_
      rotate_left
      ·intro w'
       go_simp
       with_reducible rfl
      rotate_left
      ·simp only [Act.put, List.setIfInBounds_toArray, List.set_cons_zero, List.set_cons_succ, i64_w, i32_w]
       rfl
      refine pure_ (i := 3) (N := some 19) (v := ?_) (a' := ?_) #[false, true, true, true, false, false, false, false, false, false, false, false] rfl rfl (any_of HT_.out (by kernel_rfl)) (fun _ _ _ h => h) (Or.inl ⟨by rfl, ?_⟩) ?_ ?_
      rotate_left
      ·intro w'
       go_simp
       with_reducible rfl
      rotate_left
      ·simp only [Act.put, List.setIfInBounds_toArray, List.set_cons_zero, List.set_cons_succ, i64_w, i32_w]
       rfl
      refine pure_ (i := 4) (N := some 20) (v := ?_) (a' := ?_) #[false, true, true, true, true, false, false, false, false, false, false, false] rfl rfl (any_of HT_.out (by kernel_rfl)) (fun _ _ _ h => h) (Or.inl ⟨by rfl, ?_⟩) ?_ ?_
      rotate_left
      ·intro w'
       go_simp
       with_reducible rfl
      rotate_left
      ·simp only [Act.put, List.setIfInBounds_toArray, List.set_cons_zero, List.set_cons_succ, i64_w, i32_w]
       rfl
      refine pure_ (i := 5) (N := some 21) (v := ?_) (a' := ?_) #[false, true, true, true, true, true, false, false, false, false, false, false] rfl rfl (any_of HT_.out (by kernel_rfl)) (fun _ _ _ h => h) (Or.inl ⟨by rfl, ?_⟩) ?_ ?_
      rotate_left
      ·intro w'
       go_simp
       with_reducible rfl
      rotate_left
      ·simp only [Act.put, List.setIfInBounds_toArray, List.set_cons_zero, List.set_cons_succ, i64_w, i32_w]
       rfl
      refine take_ (i := 0) (N := some 16) (v := ?_) (a' := ?_) #[true, true, true, true, true, true, false, false, false, false, false, false] rfl rfl (take_ofW HT_.out HW_.out (by kernel_rfl)) (fun _ _ _ h => h) (Or.inl ⟨by rfl, ?_⟩) hHeld ?_ ?_
      rotate_left
      ·rintro w' ⟨s0, s1, s2, s3⟩
       go_simp
       with_reducible rfl
      rotate_left
      ·simp only [Act.put, List.setIfInBounds_toArray, List.set_cons_zero, List.set_cons_succ, i64_w, i32_w]
       rfl
      refine one_ (i := 6) (N := some 22) #[true, true, true, true, true, true, true, false, false, false, false, false] rfl rfl (one_of HT_.out (by kernel_rfl)) (by decide) (fun K hK => ?_)
      refine goes_ Try.func18 (by kernel_rfl) rfl #[.agg #[.int .u32 t534, .int .u32 t535, .slice Ao37 t536.length co37, .int .i64 t539], .slice A1 (l1.take ((ji5) : Int).toNat).length c1] (by rfl) rfl rfl (by (try simp only [List.map_toArray, List.map_cons, List.map_nil]); first | done | (rw [show (l1.take ((ji5) : Int).toNat).length = (ji5).toNat from (by rw [List.length_take]; have h_ : ((ji5) : Int) ≤ (l1.length : Int) := (by first | exact of_decide_eq_true zzm | (have q_ := hji5_; split at q_ <;> omega)); omega)] <;> rfl) | (simp only [hji5]; rfl) | rfl | (simp only [List.length_drop, List.length_take]; rfl)) ?_
      with_reducible refine (r08_Find.calls t534 t535 _ _ t536 t539 _ _ (l1.take ((ji5) : Int).toNat) t541 t544 _ ?side1 ?side2 ?side3 ?side4 A8.out).mono ?_
      (case side1 => repeat (first | exact (Kd.R_reads' HO538.out).2.2 | (with_reducible refine Kd.C_alloc ?_ _) | (with_reducible refine Kd.C_drewN ?_ _) | (with_reducible refine Kd.C_drew ?_)))
      (case side2 => exact (Kd.R_reads' HO538.out).2.1)
      (case side3 => repeat (first | exact (Kd.C_below HR540.out HB.out) | (with_reducible refine Kd.C_alloc ?_ _) | (with_reducible refine Kd.C_drewN ?_ _) | (with_reducible refine Kd.C_drew ?_)))
      (case side4 => exact HC540.out)
      rintro e w41 ⟨v542, rfl, ho0, hb⟩
      refine ⟨_, rfl, ?_⟩
      have n0_ := zz (Kd.R_below (zzr HO538.out) hb)
      have n1_ := zz (Kd.R_lower ho0 (below_size zzg))
      have n2_ := zz (zzkb BK533.out hb)
      have n3_ := zz (below_step zzg hb)
      clear HO538
      clear BK533
      clear HB
      have HO538 := n0_
      have HO543 := n1_
      have BK533 := n2_
      have HB := n3_
      clear n0_ n1_ n2_ n3_
      (try clear hb)
      (try clear hb2)
      (try clear hk)
      (try clear hi)
      (try clear ho0)
      refine hK.out _ _ ⟨(blk_cell BK533.out 0).trans rfl, (blk_cell BK533.out 1).trans rfl, (blk_cell BK533.out 2).trans rfl, (blk_cell BK533.out 3).trans rfl⟩ (fun hHeld => ?_)
      clear hK K
      refine norm_ (a' := ?_) ?_ ?_
      rotate_left
      ·show Act.put _ (some 22) _ = _
       simp only [Act.put, List.setIfInBounds_toArray, List.set_cons_zero, List.set_cons_succ, i64_w, i32_w]
       rfl
      refine pure_ (i := 7) (N := some 15) (v := ?_) (a' := ?_) #[true, true, true, true, true, true, true, true, false, false, false, false] rfl rfl (any_of HT_.out (by kernel_rfl)) (fun _ _ _ h => h) (Or.inl ⟨by rfl, ?_⟩) ?_ ?_
      rotate_left
      ·intro w'
       go_simp
       with_reducible rfl
      rotate_left
      ·simp only [Act.put, List.setIfInBounds_toArray, List.set_cons_zero, List.set_cons_succ, i64_w, i32_w]
       rfl
      refine pure_ (i := 8) (N := some 23) (v := ?_) (a' := ?_) #[true, true, true, true, true, true, true, true, true, false, false, false] rfl rfl (any_of HT_.out (by kernel_rfl)) (fun _ _ _ h => h) (Or.inl ⟨by rfl, ?_⟩) ?_ ?_
      rotate_left
      ·intro w'
       go_simp
       with_reducible rfl
      rotate_left
      ·simp only [Act.put, List.setIfInBounds_toArray, List.set_cons_zero, List.set_cons_succ, i64_w, i32_w]
       rfl
      refine pure_ (i := 9) (N := some 24) (v := ?_) (a' := ?_) #[true, true, true, true, true, true, true, true, true, true, false, false] rfl rfl (any_of HT_.out (by kernel_rfl)) (fun _ _ _ h => h) (Or.inl ⟨by rfl, ?_⟩) ?_ ?_
      rotate_left
      ·intro w'
       go_simp
       with_reducible rfl
      rotate_left
      ·simp only [Act.put, List.setIfInBounds_toArray, List.set_cons_zero, List.set_cons_succ, i64_w, i32_w]
       rfl
      refine pure_ (i := 10) (N := some 7) (v := ?_) (a' := ?_) #[true, true, true, true, true, true, true, true, true, true, true, false] rfl rfl (any_of HT_.out (by kernel_rfl)) (fun _ _ _ h => h) (Or.inl ⟨by rfl, ?_⟩) ?_ ?_
      rotate_left
      ·intro w'
       go_simp
       with_reducible rfl
      rotate_left
      ·simp only [Act.put, List.setIfInBounds_toArray, List.set_cons_zero, List.set_cons_succ, i64_w, i32_w]
       rfl
      refine pure_ (i := 11) (N := some 8) (v := ?_) (a' := ?_) #[true, true, true, true, true, true, true, true, true, true, true, true] rfl rfl (any_of HT_.out (by kernel_rfl)) (fun _ _ _ h => h) (Or.inl ⟨by rfl, ?_⟩) ?_ ?_
      rotate_left
      ·intro w'
       go_simp
       with_reducible rfl
      rotate_left
      ·simp only [Act.put, List.setIfInBounds_toArray, List.set_cons_zero, List.set_cons_succ, i64_w, i32_w]
       rfl
      refine done_ (done_of HT_.out (by kernel_rfl)) ?_
      obtain ⟨hcz42_0, hcz42_1, hcz42_2, hcz42_3⟩ := zzc4 BK533.out (.int .u32 t534) (.int .u32 t535) (.slice Ao37 t536.length co37) (.int .i64 t539)
      obtain ⟨hfz42_0, hfz42_1, hfz42_2, hfz42_3⟩ := zzf4 BK533.out
      obtain ⟨Ao43, co43, eo43⟩ := Kd.R_slice HO543.out
      subst eo43
      try go_wp2_with (first | ((with_reducible refine gate_callee (f := 21) rfl ?_); refine goesL_ (some 32) rfl rfl Try.func21 (by kernel_rfl) rfl #[.agg #[.int .u32 t534, .int .u32 t535, .slice Ao37 t536.length co37, .int .i64 t539], .slice Ao43 t541.length co43, .int .i64 a2] rfl zza ?_; (with_reducible refine (blocks_Next.calls k t534 t535 _ _ t536 t539 _ _ t541 a2 t546 t549 _ ?side1 ?side2 ?side3 ?side4 A10.out).mono ?_); (case side1 => repeat (first | exact (Kd.R_reads' HO538.out).2.2 | (with_reducible refine Kd.C_alloc ?_ _) | (with_reducible refine Kd.C_drewN ?_ _) | (with_reducible refine Kd.C_drew ?_))); (case side2 => exact (Kd.R_reads' HO538.out).2.1); (case side3 => repeat (first | exact (Kd.R_reads' HO543.out).2.2 | (with_reducible refine Kd.C_alloc ?_ _) | (with_reducible refine Kd.C_drewN ?_ _) | (with_reducible refine Kd.C_drew ?_))); (case side4 => exact (Kd.R_reads' HO543.out).2.1); rintro e w44 ⟨v547, rfl, ho0, hb⟩; refine ⟨_, rfl, ?_⟩; have n0_ := zz (Kd.R_below (zzr HO538.out) hb); have n1_ := zz (Kd.R_below (zzr HO543.out) hb); have n2_ := zz (Kd.R_lower ho0 (below_size zzg)); have n3_ := zz (zzkb BK533.out hb); have n4_ := zz (below_step zzg hb); clear HO538; clear HO543; clear BK533; clear HB; have HO538 := n0_; have HO543 := n1_; have HO548 := n2_; have BK533 := n3_; have HB := n4_; clear n0_ n1_ n2_ n3_ n4_; (try clear hb); (try clear hb2); (try clear hk); (try clear hi); (try clear ho0); obtain ⟨hcz45_0, hcz45_1, hcz45_2, hcz45_3⟩ := zzc4 BK533.out (.int .u32 t534) (.int .u32 t535) (.slice Ao37 t536.length co37) (.int .i64 t539); obtain ⟨hfz45_0, hfz45_1, hfz45_2, hfz45_3⟩ := zzf4 BK533.out) | ((with_reducible refine gate_callee (f := 22) rfl ?_); refine goesL_ (some 39) rfl rfl Try.func22 (by kernel_rfl) rfl #[.agg #[.int .u32 t534, .int .u32 t535, .slice Ao37 t536.length co37, .int .i64 t539], .slice Ao43 t541.length co43, .int .i64 a2] rfl zza ?_; (with_reducible refine (r08_Next.calls t534 t535 _ _ t536 t539 _ _ t541 a2 t550 t553 _ ?side1 ?side2 ?side3 ?side4 A11.out).mono ?_); (case side1 => repeat (first | exact (Kd.R_reads' HO538.out).2.2 | (with_reducible refine Kd.C_alloc ?_ _) | (with_reducible refine Kd.C_drewN ?_ _) | (with_reducible refine Kd.C_drew ?_))); (case side2 => exact (Kd.R_reads' HO538.out).2.1); (case side3 => repeat (first | exact (Kd.R_reads' HO543.out).2.2 | (with_reducible refine Kd.C_alloc ?_ _) | (with_reducible refine Kd.C_drewN ?_ _) | (with_reducible refine Kd.C_drew ?_))); (case side4 => exact (Kd.R_reads' HO543.out).2.1); rintro e w46 ⟨v551, rfl, ho0, hb⟩; refine ⟨_, rfl, ?_⟩; have n0_ := zz (Kd.R_below (zzr HO538.out) hb); have n1_ := zz (Kd.R_below (zzr HO543.out) hb); have n2_ := zz (Kd.R_elder' (zzr HO548.out) (Kd.R_base ho0) hb); have n3_ := zz (Kd.R_lower (Kd.R_new' ho0 (Kd.R_lt (zzr HO548.out))) (below_size zzg)); have n4_ := zz (zzkb BK533.out hb); have n5_ := zz (below_step zzg hb); clear HO538; clear HO543; clear HO548; clear BK533; clear HB; have HO538 := n0_; have HO543 := n1_; have HO548 := n2_; have HO552 := n3_; have BK533 := n4_; have HB := n5_; clear n0_ n1_ n2_ n3_ n4_ n5_; (try clear hb); (try clear hb2); (try clear hk); (try clear hi); (try clear ho0); obtain ⟨Ao47, co47, eo47⟩ := Kd.R_slice HO548.out; subst eo47; obtain ⟨Ao48, co48, eo48⟩ := Kd.R_slice HO552.out; subst eo48) | ((with_reducible refine gate_callee (f := 23) rfl ?_); refine goesL_ (some 44) rfl rfl Try.func23 (by kernel_rfl) rfl #[.slice Ao47 t546.length co47, .slice Ao48 t550.length co48] rfl zza ?_; (with_reducible refine (r08_Nums.calls k _ _ t546 _ _ t550 true _ ?side1 ?side2 ?side3 ?side4 A12.out).mono ?_); (case side1 => repeat (first | exact (Kd.R_reads' HO548.out).2.2 | (with_reducible refine Kd.C_alloc ?_ _) | (with_reducible refine Kd.C_drewN ?_ _) | (with_reducible refine Kd.C_drew ?_))); (case side2 => exact (Kd.R_reads' HO548.out).2.1); (case side3 => repeat (first | exact (Kd.R_reads' HO552.out).2.2 | (with_reducible refine Kd.C_alloc ?_ _) | (with_reducible refine Kd.C_drewN ?_ _) | (with_reducible refine Kd.C_drew ?_))); (case side4 => exact (Kd.R_reads' HO552.out).2.1); rintro e w' ⟨rfl, ⟨nd, rfl⟩⟩; refine ⟨_, rfl, ?_⟩))
      go_ret
      exact ⟨by first | rfl | (simp [errW_none, errW_some] <;> rfl) | (simp only [← hji5]; first | rfl | (simp [errW_none, errW_some] <;> rfl)) | (simp [*, errW_none, errW_some] <;> rfl), zzg⟩
    ·replace c13 := Bool.eq_false_iff.mpr c13
     subst c13
     have H1 : (some false) = some r := by rw [if_neg (show ¬ (false = true) by decide)] at H; exact H
     clear H
     have H := H1
     clear H1
     obtain rfl := Option.some.inj H
     go_enter Try.func5, Try.ntmps5
     try go_wp2_with (first | ((with_reducible refine gate_dst (N := 3) rfl ?_); refine box_event ?hg (N := 3) ?hd (cs := #[.int .u32 a0_0, .int .u32 a0_1, .slice A0_2 l0_2.length c0_2, .int .i64 a0_3]) (t := 32) ?hr ?_; (case hd => rfl); (case hg => rfl); (case hr => first | (go_simp; done) | (go_simp; rfl)); intro gb533 hg w49 hbox hb; have n0_ := zz (below_step zzb hb); have n1_ := zz (hbox); have n2_ := zz ((zzn hg : w.heap.size ≤ gb533)); have n3_ := zz ((zzn hg : w.heap.size ≤ gb533)); clear HB; have HB := n0_; have BK533 := n1_; have GW533 := n2_; have GE533 := n3_; clear n0_ n1_ n2_ n3_; clear hb hbox hg; obtain ⟨hcz50_0, hcz50_1, hcz50_2, hcz50_3⟩ := zzc4 BK533.out (.int .u32 a0_0) (.int .u32 a0_1) (.slice A0_2 l0_2.length c0_2) (.int .i64 a0_3); obtain ⟨hfz50_0, hfz50_1, hfz50_2, hfz50_3⟩ := zzf4 BK533.out) | ((with_reducible refine gate_callee (f := 17) rfl ?_); refine goesL_ (some 14) rfl rfl Try.func17 (by kernel_rfl) rfl #[.agg #[.int .u32 a0_0, .int .u32 a0_1, .slice A0_2 l0_2.length c0_2, .int .i64 a0_3]] rfl zza ?_; (with_reducible refine (w08_Text.calls a0_0 a0_1 _ _ l0_2 a0_3 t534 t535 t536 t539 _ ?side1 ?side2 A4.out).mono ?_); (case side1 => repeat (first | exact (Kd.C_below HR0_2.out HB.out) | (with_reducible refine Kd.C_alloc ?_ _) | (with_reducible refine Kd.C_drewN ?_ _) | (with_reducible refine Kd.C_drew ?_))); (case side2 => exact HC0_2.out); rintro e w51 ⟨v537, rfl, ho0, hb⟩; refine ⟨_, rfl, ?_⟩; have n0_ := zz (Kd.R_lower ho0 (below_size zzg)); have n1_ := zz (zzkb BK533.out hb); have n2_ := zz (below_step zzg hb); clear BK533; clear HB; have HO538 := n0_; have BK533 := n1_; have HB := n2_; clear n0_ n1_ n2_; (try clear hb); (try clear hb2); (try clear hk); (try clear hi); (try clear ho0); obtain ⟨hcz52_0, hcz52_1, hcz52_2, hcz52_3⟩ := zzc4 BK533.out (.int .u32 a0_0) (.int .u32 a0_1) (.slice A0_2 l0_2.length c0_2) (.int .i64 a0_3); obtain ⟨hfz52_0, hfz52_1, hfz52_2, hfz52_3⟩ := zzf4 BK533.out; obtain ⟨Ao53, co53, eo53⟩ := Kd.R_slice HO538.out; subst eo53))
     have n0_ : Aside0 (Kd.R (Kd.int .u32) 24 ((((w51.setCell ⟨gb533, 0, none⟩ (.int .u32 t534)).setCell ⟨gb533, 1, none⟩ (.int .u32 t535)).setCell ⟨gb533, 2, none⟩ (.slice Ao53 t536.length co53)).setCell ⟨gb533, 3, none⟩ (.int .i64 t539)) w.heap.size (fun _ => True) (.slice Ao53 t536.length co53) t536) := ⟨by refine zzr ?_; exact Kd.R_mono (Kd.R_far (p := ⟨gb533, 3, none⟩) (Kd.R_far (p := ⟨gb533, 2, none⟩) (Kd.R_far (p := ⟨gb533, 1, none⟩) (Kd.R_far (p := ⟨gb533, 0, none⟩) (Kd.R_types HO538.out BK533.out (by decide)) (fun _ hk => hk.2) (.int .u32 t534)) (fun _ hk => hk.2) (.int .u32 t535)) (fun _ hk => hk.2) (.slice Ao53 t536.length co53)) (fun _ hk => hk.2) (.int .i64 t539)) (fun _ hk => trivial)⟩
     have n1_ : Aside0 (((((w51.setCell ⟨gb533, 0, none⟩ (.int .u32 t534)).setCell ⟨gb533, 1, none⟩ (.int .u32 t535)).setCell ⟨gb533, 2, none⟩ (.slice Ao53 t536.length co53)).setCell ⟨gb533, 3, none⟩ (.int .i64 t539)).heap[gb533]? = some (.cells #[.int .u32 t534, .int .u32 t535, .slice Ao53 t536.length co53, .int .i64 t539] 32 (0, 0))) := ⟨by refine zzk ?_; refine blk_put (cs := #[.int .u32 t534, .int .u32 t535, .slice Ao53 t536.length co53, .int .i64 a0_3]) ?_ 3 _ rfl; refine zzk ?_; refine blk_put (cs := #[.int .u32 t534, .int .u32 t535, .slice A0_2 l0_2.length c0_2, .int .i64 a0_3]) ?_ 2 _ rfl; refine zzk ?_; refine blk_put (cs := #[.int .u32 t534, .int .u32 a0_1, .slice A0_2 l0_2.length c0_2, .int .i64 a0_3]) ?_ 1 _ rfl; refine zzk ?_; refine blk_put (cs := #[.int .u32 a0_0, .int .u32 a0_1, .slice A0_2 l0_2.length c0_2, .int .i64 a0_3]) ?_ 0 _ rfl; refine zzk ?_; exact BK533.out⟩
     have n2_ : Aside0 (Below w.heap.size w ((((w51.setCell ⟨gb533, 0, none⟩ (.int .u32 t534)).setCell ⟨gb533, 1, none⟩ (.int .u32 t535)).setCell ⟨gb533, 2, none⟩ (.slice Ao53 t536.length co53)).setCell ⟨gb533, 3, none⟩ (.int .i64 t539))) := ⟨zzg⟩
     (try clear HO538)
     (try clear BK533)
     (try clear HB)
     generalize ((((w51.setCell ⟨gb533, 0, none⟩ (.int .u32 t534)).setCell ⟨gb533, 1, none⟩ (.int .u32 t535)).setCell ⟨gb533, 2, none⟩ (.slice Ao53 t536.length co53)).setCell ⟨gb533, 3, none⟩ (.int .i64 t539)) = w54 at n0_ n1_ n2_ ⊢
     have HO538 := n0_
     have BK533 := n1_
     have HB := n2_
     clear n0_ n1_ n2_
     have n0_ := zz (Kd.R_drew HO538.out)
     have n1_ := zz (blk_drew BK533.out)
     have n2_ := zz (below_drew1 HB.out)
     clear HO538
     clear BK533
     clear HB
     have HO538 := n0_
     have BK533 := n1_
     have HB := n2_
     clear n0_ n1_ n2_
     obtain ⟨i056, hi056, _, hsz56, _⟩ := info_parts info24
     obtain ⟨hcut56, hA56, hC56⟩ := print_take_of (P := Try.prog) (Value.int .u32) 0 27 24 .i64 Try.underlying27 hi056 hsz56 A1 c1 l1 (ji5) (of_decide_eq_true zzm) (of_decide_eq_true zzm) HC1.out
     have HR540 := zz (Kd.C_of_reads (h1 := fun _ => rfl) (hA56 _ (Kd.reads_of_C HR1.out)))
     have HC540 := zz hC56
     clear hA56 hC56 hi056 hsz56
     refine start_ (n := 12) (S := fun w' => w'.cell? ⟨gb533, 0, none⟩ = some (.int .u32 t534) ∧ w'.cell? ⟨gb533, 1, none⟩ = some (.int .u32 t535) ∧ w'.cell? ⟨gb533, 2, none⟩ = some (.slice Ao53 t536.length co53) ∧ w'.cell? ⟨gb533, 3, none⟩ = some (.int .i64 t539)) (ds := []) #[false, false, false, false, false, false, false, false, false, false, false, false] (by kernel_rfl) rfl rfl ⟨(blk_cell BK533.out 0).trans rfl, (blk_cell BK533.out 1).trans rfl, (blk_cell BK533.out 2).trans rfl, (blk_cell BK533.out 3).trans rfl⟩ (fun hHeld => ?_); refine with_tabW w08_BlocksNext.tab2 w08_BlocksNext.bits2 (fun HT_ HW_ => ?_)
     generalize w54.drew = w55 at HO538 BK533 HB HR540 hHeld ⊢
     refine pure_ (i := 1) (N := some 17) (v := ?_) (a' := ?_) #[false, true, false, false, false, false, false, false, false, false, false, false] rfl rfl (any_of HT_.out (by kernel_rfl)) (fun _ _ _ h => h) (Or.inl ⟨by rfl, ?_⟩) ?_ ?_
     rotate_left
     ·intro w'
      go_simp
      with_reducible rfl
     rotate_left
     ·simp only [Act.put, List.setIfInBounds_toArray, List.set_cons_zero, List.set_cons_succ, i64_w, i32_w]
      rfl
     refine pure_ (i := 2) (N := some 18) (v := ?_) (a' := ?_) #[false, true, true, false, false, false, false, false, false, false, false, false] rfl rfl (any_of HT_.out (by kernel_rfl)) (fun _ _ _ h => h) (Or.inl ⟨by rfl, ?_⟩) ?_ ?_
     rotate_left
     ·intro w'
      go_simp
      with_reducible rfl
     rotate_left
     ·simp only [Act.put, List.setIfInBounds_toArray, List.set_cons_zero, List.set_cons_succ, i64_w, i32_w]
      rfl
     refine pure_ (i := 3) (N := some 19) (v := ?_) (a' := ?_) #[false, true, true, true, false, false, false, false, false, false, false, false] rfl rfl (any_of HT_.out (by kernel_rfl)) (fun _ _ _ h => h) (Or.inl ⟨by rfl, ?_⟩) ?_ ?_
     rotate_left
     ·intro w'
      go_simp
      with_reducible rfl
     rotate_left
     ·simp only [Act.put, List.setIfInBounds_toArray, List.set_cons_zero, List.set_cons_succ, i64_w, i32_w]
      rfl
     refine pure_ (i := 4) (N := some 20) (v := ?_) (a' := ?_) #[false, true, true, true, true, false, false, false, false, false, false, false] rfl rfl (any_of HT_.out (by kernel_rfl)) (fun _ _ _ h => h) (Or.inl ⟨by rfl, ?_⟩) ?_ ?_
     rotate_left
     ·intro w'
      go_simp
      with_reducible rfl
     rotate_left
     ·simp only [Act.put, List.setIfInBounds_toArray, List.set_cons_zero, List.set_cons_succ, i64_w, i32_w]
      rfl
     refine pure_ (i := 5) (N := some 21) (v := ?_) (a' := ?_) #[false, true, true, true, true, true, false, false, false, false, false, false] rfl rfl (any_of HT_.out (by kernel_rfl)) (fun _ _ _ h => h) (Or.inl ⟨by rfl, ?_⟩) ?_ ?_
     rotate_left
     ·intro w'
      go_simp
      with_reducible rfl
     rotate_left
     ·simp only [Act.put, List.setIfInBounds_toArray, List.set_cons_zero, List.set_cons_succ, i64_w, i32_w]
      rfl
     refine take_ (i := 0) (N := some 16) (v := ?_) (a' := ?_) #[true, true, true, true, true, true, false, false, false, false, false, false] rfl rfl (take_ofW HT_.out HW_.out (by kernel_rfl)) (fun _ _ _ h => h) (Or.inl ⟨by rfl, ?_⟩) hHeld ?_ ?_
     rotate_left
     ·rintro w' ⟨s0, s1, s2, s3⟩
      go_simp
      with_reducible rfl
     rotate_left
     ·simp only [Act.put, List.setIfInBounds_toArray, List.set_cons_zero, List.set_cons_succ, i64_w, i32_w]
      rfl
     refine one_ (i := 6) (N := some 22) #[true, true, true, true, true, true, true, false, false, false, false, false] rfl rfl (one_of HT_.out (by kernel_rfl)) (by decide) (fun K hK => ?_)
     refine goes_ Try.func18 (by kernel_rfl) rfl #[.agg #[.int .u32 t534, .int .u32 t535, .slice Ao53 t536.length co53, .int .i64 t539], .slice A1 (l1.take ((ji5) : Int).toNat).length c1] (by rfl) rfl rfl (by (try simp only [List.map_toArray, List.map_cons, List.map_nil]); first | done | (rw [show (l1.take ((ji5) : Int).toNat).length = (ji5).toNat from (by rw [List.length_take]; have h_ : ((ji5) : Int) ≤ (l1.length : Int) := (by first | exact of_decide_eq_true zzm | (have q_ := hji5_; split at q_ <;> omega)); omega)] <;> rfl) | (simp only [hji5]; rfl) | rfl | (simp only [List.length_drop, List.length_take]; rfl)) ?_
     with_reducible refine (r08_Find.calls t534 t535 _ _ t536 t539 _ _ (l1.take ((ji5) : Int).toNat) t541 t544 _ ?side1 ?side2 ?side3 ?side4 A8.out).mono ?_
     (case side1 => repeat (first | exact (Kd.R_reads' HO538.out).2.2 | (with_reducible refine Kd.C_alloc ?_ _) | (with_reducible refine Kd.C_drewN ?_ _) | (with_reducible refine Kd.C_drew ?_)))
     (case side2 => exact (Kd.R_reads' HO538.out).2.1)
     (case side3 => repeat (first | exact (Kd.C_below HR540.out HB.out) | (with_reducible refine Kd.C_alloc ?_ _) | (with_reducible refine Kd.C_drewN ?_ _) | (with_reducible refine Kd.C_drew ?_)))
     (case side4 => exact HC540.out)
     rintro e w57 ⟨v542, rfl, ho0, hb⟩
     refine ⟨_, rfl, ?_⟩
     have n0_ := zz (Kd.R_below (zzr HO538.out) hb)
     have n1_ := zz (Kd.R_lower ho0 (below_size zzg))
     have n2_ := zz (zzkb BK533.out hb)
     have n3_ := zz (below_step zzg hb)
     clear HO538
     clear BK533
     clear HB
     have HO538 := n0_
     have HO543 := n1_
     have BK533 := n2_
     have HB := n3_
     clear n0_ n1_ n2_ n3_
     (try clear hb)
     (try clear hb2)
     (try clear hk)
     (try clear hi)
     (try clear ho0)
     refine hK.out _ _ ⟨(blk_cell BK533.out 0).trans rfl, (blk_cell BK533.out 1).trans rfl, (blk_cell BK533.out 2).trans rfl, (blk_cell BK533.out 3).trans rfl⟩ (fun hHeld => ?_)
     clear hK K
     refine norm_ (a' := ?_) ?_ ?_
     rotate_left
     ·show Act.put _ (some 22) _ = _
      simp only [Act.put, List.setIfInBounds_toArray, List.set_cons_zero, List.set_cons_succ, i64_w, i32_w]
      rfl
     refine pure_ (i := 7) (N := some 15) (v := ?_) (a' := ?_) #[true, true, true, true, true, true, true, true, false, false, false, false] rfl rfl (any_of HT_.out (by kernel_rfl)) (fun _ _ _ h => h) (Or.inl ⟨by rfl, ?_⟩) ?_ ?_
     rotate_left
     ·intro w'
      go_simp
      with_reducible rfl
     rotate_left
     ·simp only [Act.put, List.setIfInBounds_toArray, List.set_cons_zero, List.set_cons_succ, i64_w, i32_w]
      rfl
     refine pure_ (i := 8) (N := some 23) (v := ?_) (a' := ?_) #[true, true, true, true, true, true, true, true, true, false, false, false] rfl rfl (any_of HT_.out (by kernel_rfl)) (fun _ _ _ h => h) (Or.inl ⟨by rfl, ?_⟩) ?_ ?_
     rotate_left
     ·intro w'
      go_simp
      with_reducible rfl
     rotate_left
     ·simp only [Act.put, List.setIfInBounds_toArray, List.set_cons_zero, List.set_cons_succ, i64_w, i32_w]
      rfl
     refine pure_ (i := 9) (N := some 24) (v := ?_) (a' := ?_) #[true, true, true, true, true, true, true, true, true, true, false, false] rfl rfl (any_of HT_.out (by kernel_rfl)) (fun _ _ _ h => h) (Or.inl ⟨by rfl, ?_⟩) ?_ ?_
     rotate_left
     ·intro w'
      go_simp
      with_reducible rfl
     rotate_left
     ·simp only [Act.put, List.setIfInBounds_toArray, List.set_cons_zero, List.set_cons_succ, i64_w, i32_w]
      rfl
     refine pure_ (i := 10) (N := some 7) (v := ?_) (a' := ?_) #[true, true, true, true, true, true, true, true, true, true, true, false] rfl rfl (any_of HT_.out (by kernel_rfl)) (fun _ _ _ h => h) (Or.inl ⟨by rfl, ?_⟩) ?_ ?_
     rotate_left
     ·intro w'
      go_simp
      with_reducible rfl
     rotate_left
     ·simp only [Act.put, List.setIfInBounds_toArray, List.set_cons_zero, List.set_cons_succ, i64_w, i32_w]
      rfl
     refine pure_ (i := 11) (N := some 8) (v := ?_) (a' := ?_) #[true, true, true, true, true, true, true, true, true, true, true, true] rfl rfl (any_of HT_.out (by kernel_rfl)) (fun _ _ _ h => h) (Or.inl ⟨by rfl, ?_⟩) ?_ ?_
     rotate_left
     ·intro w'
      go_simp
      with_reducible rfl
     rotate_left
     ·simp only [Act.put, List.setIfInBounds_toArray, List.set_cons_zero, List.set_cons_succ, i64_w, i32_w]
      rfl
     refine done_ (done_of HT_.out (by kernel_rfl)) ?_
     obtain ⟨hcz58_0, hcz58_1, hcz58_2, hcz58_3⟩ := zzc4 BK533.out (.int .u32 t534) (.int .u32 t535) (.slice Ao53 t536.length co53) (.int .i64 t539)
     obtain ⟨hfz58_0, hfz58_1, hfz58_2, hfz58_3⟩ := zzf4 BK533.out
     obtain ⟨Ao59, co59, eo59⟩ := Kd.R_slice HO543.out
     subst eo59
     try go_wp2_with (first | ((with_reducible refine gate_callee (f := 21) rfl ?_); refine goesL_ (some 32) rfl rfl Try.func21 (by kernel_rfl) rfl #[.agg #[.int .u32 t534, .int .u32 t535, .slice Ao53 t536.length co53, .int .i64 t539], .slice Ao59 t541.length co59, .int .i64 a2] rfl zza ?_; (with_reducible refine (blocks_Next.calls k t534 t535 _ _ t536 t539 _ _ t541 a2 t546 t549 _ ?side1 ?side2 ?side3 ?side4 A10.out).mono ?_); (case side1 => repeat (first | exact (Kd.R_reads' HO538.out).2.2 | (with_reducible refine Kd.C_alloc ?_ _) | (with_reducible refine Kd.C_drewN ?_ _) | (with_reducible refine Kd.C_drew ?_))); (case side2 => exact (Kd.R_reads' HO538.out).2.1); (case side3 => repeat (first | exact (Kd.R_reads' HO543.out).2.2 | (with_reducible refine Kd.C_alloc ?_ _) | (with_reducible refine Kd.C_drewN ?_ _) | (with_reducible refine Kd.C_drew ?_))); (case side4 => exact (Kd.R_reads' HO543.out).2.1); rintro e w60 ⟨v547, rfl, ho0, hb⟩; refine ⟨_, rfl, ?_⟩; have n0_ := zz (Kd.R_below (zzr HO538.out) hb); have n1_ := zz (Kd.R_below (zzr HO543.out) hb); have n2_ := zz (Kd.R_lower ho0 (below_size zzg)); have n3_ := zz (zzkb BK533.out hb); have n4_ := zz (below_step zzg hb); clear HO538; clear HO543; clear BK533; clear HB; have HO538 := n0_; have HO543 := n1_; have HO548 := n2_; have BK533 := n3_; have HB := n4_; clear n0_ n1_ n2_ n3_ n4_; (try clear hb); (try clear hb2); (try clear hk); (try clear hi); (try clear ho0); obtain ⟨hcz61_0, hcz61_1, hcz61_2, hcz61_3⟩ := zzc4 BK533.out (.int .u32 t534) (.int .u32 t535) (.slice Ao53 t536.length co53) (.int .i64 t539); obtain ⟨hfz61_0, hfz61_1, hfz61_2, hfz61_3⟩ := zzf4 BK533.out) | ((with_reducible refine gate_callee (f := 22) rfl ?_); refine goesL_ (some 39) rfl rfl Try.func22 (by kernel_rfl) rfl #[.agg #[.int .u32 t534, .int .u32 t535, .slice Ao53 t536.length co53, .int .i64 t539], .slice Ao59 t541.length co59, .int .i64 a2] rfl zza ?_; (with_reducible refine (r08_Next.calls t534 t535 _ _ t536 t539 _ _ t541 a2 t550 t553 _ ?side1 ?side2 ?side3 ?side4 A11.out).mono ?_); (case side1 => repeat (first | exact (Kd.R_reads' HO538.out).2.2 | (with_reducible refine Kd.C_alloc ?_ _) | (with_reducible refine Kd.C_drewN ?_ _) | (with_reducible refine Kd.C_drew ?_))); (case side2 => exact (Kd.R_reads' HO538.out).2.1); (case side3 => repeat (first | exact (Kd.R_reads' HO543.out).2.2 | (with_reducible refine Kd.C_alloc ?_ _) | (with_reducible refine Kd.C_drewN ?_ _) | (with_reducible refine Kd.C_drew ?_))); (case side4 => exact (Kd.R_reads' HO543.out).2.1); rintro e w62 ⟨v551, rfl, ho0, hb⟩; refine ⟨_, rfl, ?_⟩; have n0_ := zz (Kd.R_below (zzr HO538.out) hb); have n1_ := zz (Kd.R_below (zzr HO543.out) hb); have n2_ := zz (Kd.R_elder' (zzr HO548.out) (Kd.R_base ho0) hb); have n3_ := zz (Kd.R_lower (Kd.R_new' ho0 (Kd.R_lt (zzr HO548.out))) (below_size zzg)); have n4_ := zz (zzkb BK533.out hb); have n5_ := zz (below_step zzg hb); clear HO538; clear HO543; clear HO548; clear BK533; clear HB; have HO538 := n0_; have HO543 := n1_; have HO548 := n2_; have HO552 := n3_; have BK533 := n4_; have HB := n5_; clear n0_ n1_ n2_ n3_ n4_ n5_; (try clear hb); (try clear hb2); (try clear hk); (try clear hi); (try clear ho0); obtain ⟨Ao63, co63, eo63⟩ := Kd.R_slice HO548.out; subst eo63; obtain ⟨Ao64, co64, eo64⟩ := Kd.R_slice HO552.out; subst eo64) | ((with_reducible refine gate_callee (f := 23) rfl ?_); refine goesL_ (some 44) rfl rfl Try.func23 (by kernel_rfl) rfl #[.slice Ao63 t546.length co63, .slice Ao64 t550.length co64] rfl zza ?_; (with_reducible refine (r08_Nums.calls k _ _ t546 _ _ t550 false _ ?side1 ?side2 ?side3 ?side4 A12.out).mono ?_); (case side1 => repeat (first | exact (Kd.R_reads' HO548.out).2.2 | (with_reducible refine Kd.C_alloc ?_ _) | (with_reducible refine Kd.C_drewN ?_ _) | (with_reducible refine Kd.C_drew ?_))); (case side2 => exact (Kd.R_reads' HO548.out).2.1); (case side3 => repeat (first | exact (Kd.R_reads' HO552.out).2.2 | (with_reducible refine Kd.C_alloc ?_ _) | (with_reducible refine Kd.C_drewN ?_ _) | (with_reducible refine Kd.C_drew ?_))); (case side4 => exact (Kd.R_reads' HO552.out).2.1); rintro e w' ⟨rfl, ⟨nd, rfl⟩⟩; refine ⟨_, rfl, ?_⟩))
     go_ret
     exact ⟨by first | rfl | (simp [errW_none, errW_some] <;> rfl) | (simp only [← hji5]; first | rfl | (simp [errW_none, errW_some] <;> rfl)) | (simp [*, errW_none, errW_some] <;> rfl), zzg⟩
   ·rw [if_neg c9] at H
    have c9b0 : (t544 == 0) = false := beq_eq_false_iff_ne.mpr c9
    have c9b1 : (t544 != 0) = true := bne_iff_ne.mpr c9
    replace H := Option.bind_eq_some_iff.mp H
    obtain ⟨t545, A650, H⟩ := H
    replace H : (some t545) = some r := H
    have A65 := zz A650
    clear A650
    obtain rfl := Option.some.inj H
    go_enter Try.func5, Try.ntmps5
    try go_wp2_with (first | ((with_reducible refine gate_dst (N := 3) rfl ?_); refine box_event ?hg (N := 3) ?hd (cs := #[.int .u32 a0_0, .int .u32 a0_1, .slice A0_2 l0_2.length c0_2, .int .i64 a0_3]) (t := 32) ?hr ?_; (case hd => rfl); (case hg => rfl); (case hr => first | (go_simp; done) | (go_simp; rfl)); intro gb533 hg w66 hbox hb; have n0_ := zz (below_step zzb hb); have n1_ := zz (hbox); have n2_ := zz ((zzn hg : w.heap.size ≤ gb533)); have n3_ := zz ((zzn hg : w.heap.size ≤ gb533)); clear HB; have HB := n0_; have BK533 := n1_; have GW533 := n2_; have GE533 := n3_; clear n0_ n1_ n2_ n3_; clear hb hbox hg; obtain ⟨hcz67_0, hcz67_1, hcz67_2, hcz67_3⟩ := zzc4 BK533.out (.int .u32 a0_0) (.int .u32 a0_1) (.slice A0_2 l0_2.length c0_2) (.int .i64 a0_3); obtain ⟨hfz67_0, hfz67_1, hfz67_2, hfz67_3⟩ := zzf4 BK533.out) | ((with_reducible refine gate_callee (f := 17) rfl ?_); refine goesL_ (some 14) rfl rfl Try.func17 (by kernel_rfl) rfl #[.agg #[.int .u32 a0_0, .int .u32 a0_1, .slice A0_2 l0_2.length c0_2, .int .i64 a0_3]] rfl zza ?_; (with_reducible refine (w08_Text.calls a0_0 a0_1 _ _ l0_2 a0_3 t534 t535 t536 t539 _ ?side1 ?side2 A4.out).mono ?_); (case side1 => repeat (first | exact (Kd.C_below HR0_2.out HB.out) | (with_reducible refine Kd.C_alloc ?_ _) | (with_reducible refine Kd.C_drewN ?_ _) | (with_reducible refine Kd.C_drew ?_))); (case side2 => exact HC0_2.out); rintro e w68 ⟨v537, rfl, ho0, hb⟩; refine ⟨_, rfl, ?_⟩; have n0_ := zz (Kd.R_lower ho0 (below_size zzg)); have n1_ := zz (zzkb BK533.out hb); have n2_ := zz (below_step zzg hb); clear BK533; clear HB; have HO538 := n0_; have BK533 := n1_; have HB := n2_; clear n0_ n1_ n2_; (try clear hb); (try clear hb2); (try clear hk); (try clear hi); (try clear ho0); obtain ⟨hcz69_0, hcz69_1, hcz69_2, hcz69_3⟩ := zzc4 BK533.out (.int .u32 a0_0) (.int .u32 a0_1) (.slice A0_2 l0_2.length c0_2) (.int .i64 a0_3); obtain ⟨hfz69_0, hfz69_1, hfz69_2, hfz69_3⟩ := zzf4 BK533.out; obtain ⟨Ao70, co70, eo70⟩ := Kd.R_slice HO538.out; subst eo70))
    have n0_ : Aside0 (Kd.R (Kd.int .u32) 24 ((((w68.setCell ⟨gb533, 0, none⟩ (.int .u32 t534)).setCell ⟨gb533, 1, none⟩ (.int .u32 t535)).setCell ⟨gb533, 2, none⟩ (.slice Ao70 t536.length co70)).setCell ⟨gb533, 3, none⟩ (.int .i64 t539)) w.heap.size (fun _ => True) (.slice Ao70 t536.length co70) t536) := ⟨by refine zzr ?_; exact Kd.R_mono (Kd.R_far (p := ⟨gb533, 3, none⟩) (Kd.R_far (p := ⟨gb533, 2, none⟩) (Kd.R_far (p := ⟨gb533, 1, none⟩) (Kd.R_far (p := ⟨gb533, 0, none⟩) (Kd.R_types HO538.out BK533.out (by decide)) (fun _ hk => hk.2) (.int .u32 t534)) (fun _ hk => hk.2) (.int .u32 t535)) (fun _ hk => hk.2) (.slice Ao70 t536.length co70)) (fun _ hk => hk.2) (.int .i64 t539)) (fun _ hk => trivial)⟩
    have n1_ : Aside0 (((((w68.setCell ⟨gb533, 0, none⟩ (.int .u32 t534)).setCell ⟨gb533, 1, none⟩ (.int .u32 t535)).setCell ⟨gb533, 2, none⟩ (.slice Ao70 t536.length co70)).setCell ⟨gb533, 3, none⟩ (.int .i64 t539)).heap[gb533]? = some (.cells #[.int .u32 t534, .int .u32 t535, .slice Ao70 t536.length co70, .int .i64 t539] 32 (0, 0))) := ⟨by refine zzk ?_; refine blk_put (cs := #[.int .u32 t534, .int .u32 t535, .slice Ao70 t536.length co70, .int .i64 a0_3]) ?_ 3 _ rfl; refine zzk ?_; refine blk_put (cs := #[.int .u32 t534, .int .u32 t535, .slice A0_2 l0_2.length c0_2, .int .i64 a0_3]) ?_ 2 _ rfl; refine zzk ?_; refine blk_put (cs := #[.int .u32 t534, .int .u32 a0_1, .slice A0_2 l0_2.length c0_2, .int .i64 a0_3]) ?_ 1 _ rfl; refine zzk ?_; refine blk_put (cs := #[.int .u32 a0_0, .int .u32 a0_1, .slice A0_2 l0_2.length c0_2, .int .i64 a0_3]) ?_ 0 _ rfl; refine zzk ?_; exact BK533.out⟩
    have n2_ : Aside0 (Below w.heap.size w ((((w68.setCell ⟨gb533, 0, none⟩ (.int .u32 t534)).setCell ⟨gb533, 1, none⟩ (.int .u32 t535)).setCell ⟨gb533, 2, none⟩ (.slice Ao70 t536.length co70)).setCell ⟨gb533, 3, none⟩ (.int .i64 t539))) := ⟨zzg⟩
    (try clear HO538)
    (try clear BK533)
    (try clear HB)
    generalize ((((w68.setCell ⟨gb533, 0, none⟩ (.int .u32 t534)).setCell ⟨gb533, 1, none⟩ (.int .u32 t535)).setCell ⟨gb533, 2, none⟩ (.slice Ao70 t536.length co70)).setCell ⟨gb533, 3, none⟩ (.int .i64 t539)) = w71 at n0_ n1_ n2_ ⊢
    have HO538 := n0_
    have BK533 := n1_
    have HB := n2_
    clear n0_ n1_ n2_
    have n0_ := zz (Kd.R_drew HO538.out)
    have n1_ := zz (blk_drew BK533.out)
    have n2_ := zz (below_drew1 HB.out)
    clear HO538
    clear BK533
    clear HB
    have HO538 := n0_
    have BK533 := n1_
    have HB := n2_
    clear n0_ n1_ n2_
    obtain ⟨i073, hi073, _, hsz73, _⟩ := info_parts info24
    obtain ⟨hcut73, hA73, hC73⟩ := print_take_of (P := Try.prog) (Value.int .u32) 0 27 24 .i64 Try.underlying27 hi073 hsz73 A1 c1 l1 (ji5) (of_decide_eq_true zzm) (of_decide_eq_true zzm) HC1.out
    have HR540 := zz (Kd.C_of_reads (h1 := fun _ => rfl) (hA73 _ (Kd.reads_of_C HR1.out)))
    have HC540 := zz hC73
    clear hA73 hC73 hi073 hsz73
    refine start_ (n := 12) (S := fun w' => w'.cell? ⟨gb533, 0, none⟩ = some (.int .u32 t534) ∧ w'.cell? ⟨gb533, 1, none⟩ = some (.int .u32 t535) ∧ w'.cell? ⟨gb533, 2, none⟩ = some (.slice Ao70 t536.length co70) ∧ w'.cell? ⟨gb533, 3, none⟩ = some (.int .i64 t539)) (ds := []) #[false, false, false, false, false, false, false, false, false, false, false, false] (by kernel_rfl) rfl rfl ⟨(blk_cell BK533.out 0).trans rfl, (blk_cell BK533.out 1).trans rfl, (blk_cell BK533.out 2).trans rfl, (blk_cell BK533.out 3).trans rfl⟩ (fun hHeld => ?_); refine with_tabW w08_BlocksNext.tab2 w08_BlocksNext.bits2 (fun HT_ HW_ => ?_)
    generalize w71.drew = w72 at HO538 BK533 HB HR540 hHeld ⊢
    refine pure_ (i := 1) (N := some 17) (v := ?_) (a' := ?_) #[false, true, false, false, false, false, false, false, false, false, false, false] rfl rfl (any_of HT_.out (by kernel_rfl)) (fun _ _ _ h => h) (Or.inl ⟨by rfl, ?_⟩) ?_ ?_
    rotate_left
    ·intro w'
     go_simp
     with_reducible rfl
    rotate_left
    ·simp only [Act.put, List.setIfInBounds_toArray, List.set_cons_zero, List.set_cons_succ, i64_w, i32_w]
     rfl
    refine pure_ (i := 2) (N := some 18) (v := ?_) (a' := ?_) #[false, true, true, false, false, false, false, false, false, false, false, false] rfl rfl (any_of HT_.out (by kernel_rfl)) (fun _ _ _ h => h) (Or.inl ⟨by rfl, ?_⟩) ?_ ?_
    rotate_left
    ·intro w'
     go_simp
     with_reducible rfl
    rotate_left
    ·simp only [Act.put, List.setIfInBounds_toArray, List.set_cons_zero, List.set_cons_succ, i64_w, i32_w]
     rfl
    refine pure_ (i := 3) (N := some 19) (v := ?_) (a' := ?_) #[false, true, true, true, false, false, false, false, false, false, false, false] rfl rfl (any_of HT_.out (by kernel_rfl)) (fun _ _ _ h => h) (Or.inl ⟨by rfl, ?_⟩) ?_ ?_
    rotate_left
    ·intro w'
     go_simp
     with_reducible rfl
    rotate_left
    ·simp only [Act.put, List.setIfInBounds_toArray, List.set_cons_zero, List.set_cons_succ, i64_w, i32_w]
     rfl
    refine pure_ (i := 4) (N := some 20) (v := ?_) (a' := ?_) #[false, true, true, true, true, false, false, false, false, false, false, false] rfl rfl (any_of HT_.out (by kernel_rfl)) (fun _ _ _ h => h) (Or.inl ⟨by rfl, ?_⟩) ?_ ?_
    rotate_left
    ·intro w'
     go_simp
     with_reducible rfl
    rotate_left
    ·simp only [Act.put, List.setIfInBounds_toArray, List.set_cons_zero, List.set_cons_succ, i64_w, i32_w]
     rfl
    refine pure_ (i := 5) (N := some 21) (v := ?_) (a' := ?_) #[false, true, true, true, true, true, false, false, false, false, false, false] rfl rfl (any_of HT_.out (by kernel_rfl)) (fun _ _ _ h => h) (Or.inl ⟨by rfl, ?_⟩) ?_ ?_
    rotate_left
    ·intro w'
     go_simp
     with_reducible rfl
    rotate_left
    ·simp only [Act.put, List.setIfInBounds_toArray, List.set_cons_zero, List.set_cons_succ, i64_w, i32_w]
     rfl
    refine take_ (i := 0) (N := some 16) (v := ?_) (a' := ?_) #[true, true, true, true, true, true, false, false, false, false, false, false] rfl rfl (take_ofW HT_.out HW_.out (by kernel_rfl)) (fun _ _ _ h => h) (Or.inl ⟨by rfl, ?_⟩) hHeld ?_ ?_
    rotate_left
    ·rintro w' ⟨s0, s1, s2, s3⟩
     go_simp
     with_reducible rfl
    rotate_left
    ·simp only [Act.put, List.setIfInBounds_toArray, List.set_cons_zero, List.set_cons_succ, i64_w, i32_w]
     rfl
    refine one_ (i := 6) (N := some 22) #[true, true, true, true, true, true, true, false, false, false, false, false] rfl rfl (one_of HT_.out (by kernel_rfl)) (by decide) (fun K hK => ?_)
    refine goes_ Try.func18 (by kernel_rfl) rfl #[.agg #[.int .u32 t534, .int .u32 t535, .slice Ao70 t536.length co70, .int .i64 t539], .slice A1 (l1.take ((ji5) : Int).toNat).length c1] (by rfl) rfl rfl (by (try simp only [List.map_toArray, List.map_cons, List.map_nil]); first | done | (rw [show (l1.take ((ji5) : Int).toNat).length = (ji5).toNat from (by rw [List.length_take]; have h_ : ((ji5) : Int) ≤ (l1.length : Int) := (by first | exact of_decide_eq_true zzm | (have q_ := hji5_; split at q_ <;> omega)); omega)] <;> rfl) | (simp only [hji5]; rfl) | rfl | (simp only [List.length_drop, List.length_take]; rfl)) ?_
    with_reducible refine (r08_Find.calls t534 t535 _ _ t536 t539 _ _ (l1.take ((ji5) : Int).toNat) t541 t544 _ ?side1 ?side2 ?side3 ?side4 A8.out).mono ?_
    (case side1 => repeat (first | exact (Kd.R_reads' HO538.out).2.2 | (with_reducible refine Kd.C_alloc ?_ _) | (with_reducible refine Kd.C_drewN ?_ _) | (with_reducible refine Kd.C_drew ?_)))
    (case side2 => exact (Kd.R_reads' HO538.out).2.1)
    (case side3 => repeat (first | exact (Kd.C_below HR540.out HB.out) | (with_reducible refine Kd.C_alloc ?_ _) | (with_reducible refine Kd.C_drewN ?_ _) | (with_reducible refine Kd.C_drew ?_)))
    (case side4 => exact HC540.out)
    rintro e w74 ⟨v542, rfl, ho0, hb⟩
    refine ⟨_, rfl, ?_⟩
    have n0_ := zz (Kd.R_below (zzr HO538.out) hb)
    have n1_ := zz (Kd.R_lower ho0 (below_size zzg))
    have n2_ := zz (zzkb BK533.out hb)
    have n3_ := zz (below_step zzg hb)
    clear HO538
    clear BK533
    clear HB
    have HO538 := n0_
    have HO543 := n1_
    have BK533 := n2_
    have HB := n3_
    clear n0_ n1_ n2_ n3_
    (try clear hb)
    (try clear hb2)
    (try clear hk)
    (try clear hi)
    (try clear ho0)
    refine hK.out _ _ ⟨(blk_cell BK533.out 0).trans rfl, (blk_cell BK533.out 1).trans rfl, (blk_cell BK533.out 2).trans rfl, (blk_cell BK533.out 3).trans rfl⟩ (fun hHeld => ?_)
    clear hK K
    refine norm_ (a' := ?_) ?_ ?_
    rotate_left
    ·show Act.put _ (some 22) _ = _
     simp only [Act.put, List.setIfInBounds_toArray, List.set_cons_zero, List.set_cons_succ, i64_w, i32_w]
     rfl
    refine pure_ (i := 7) (N := some 15) (v := ?_) (a' := ?_) #[true, true, true, true, true, true, true, true, false, false, false, false] rfl rfl (any_of HT_.out (by kernel_rfl)) (fun _ _ _ h => h) (Or.inl ⟨by rfl, ?_⟩) ?_ ?_
    rotate_left
    ·intro w'
     go_simp
     with_reducible rfl
    rotate_left
    ·simp only [Act.put, List.setIfInBounds_toArray, List.set_cons_zero, List.set_cons_succ, i64_w, i32_w]
     rfl
    refine pure_ (i := 8) (N := some 23) (v := ?_) (a' := ?_) #[true, true, true, true, true, true, true, true, true, false, false, false] rfl rfl (any_of HT_.out (by kernel_rfl)) (fun _ _ _ h => h) (Or.inl ⟨by rfl, ?_⟩) ?_ ?_
    rotate_left
    ·intro w'
     go_simp
     with_reducible rfl
    rotate_left
    ·simp only [Act.put, List.setIfInBounds_toArray, List.set_cons_zero, List.set_cons_succ, i64_w, i32_w]
     rfl
    refine pure_ (i := 9) (N := some 24) (v := ?_) (a' := ?_) #[true, true, true, true, true, true, true, true, true, true, false, false] rfl rfl (any_of HT_.out (by kernel_rfl)) (fun _ _ _ h => h) (Or.inl ⟨by rfl, ?_⟩) ?_ ?_
    rotate_left
    ·intro w'
     go_simp
     with_reducible rfl
    rotate_left
    ·simp only [Act.put, List.setIfInBounds_toArray, List.set_cons_zero, List.set_cons_succ, i64_w, i32_w]
     rfl
    refine pure_ (i := 10) (N := some 7) (v := ?_) (a' := ?_) #[true, true, true, true, true, true, true, true, true, true, true, false] rfl rfl (any_of HT_.out (by kernel_rfl)) (fun _ _ _ h => h) (Or.inl ⟨by rfl, ?_⟩) ?_ ?_
    rotate_left
    ·intro w'
     go_simp
     with_reducible rfl
    rotate_left
    ·simp only [Act.put, List.setIfInBounds_toArray, List.set_cons_zero, List.set_cons_succ, i64_w, i32_w]
     rfl
    refine pure_ (i := 11) (N := some 8) (v := ?_) (a' := ?_) #[true, true, true, true, true, true, true, true, true, true, true, true] rfl rfl (any_of HT_.out (by kernel_rfl)) (fun _ _ _ h => h) (Or.inl ⟨by rfl, ?_⟩) ?_ ?_
    rotate_left
    ·intro w'
     go_simp
     with_reducible rfl
    rotate_left
    ·simp only [Act.put, List.setIfInBounds_toArray, List.set_cons_zero, List.set_cons_succ, i64_w, i32_w]
     rfl
    refine done_ (done_of HT_.out (by kernel_rfl)) ?_
    try go_wp2_with (first | ((with_reducible refine gate_callee (f := 11) rfl ?_); refine goesL_ (some 27) rfl rfl Try.func11 (by kernel_rfl) rfl #[] rfl zza ?_; (with_reducible refine (w08_fixed.calls  t545 _ A65.out).mono ?_); rintro e w75 ⟨rfl, hb⟩; refine ⟨_, rfl, ?_⟩; have n0_ := zz (Kd.R_below (zzr HO538.out) hb); have n1_ := zz (Kd.R_below (zzr HO543.out) hb); have n2_ := zz (zzkb BK533.out hb); have n3_ := zz (below_step zzg hb); clear HO538; clear HO543; clear BK533; clear HB; have HO538 := n0_; have HO543 := n1_; have BK533 := n2_; have HB := n3_; clear n0_ n1_ n2_ n3_; (try clear hb); (try clear hb2); (try clear hk); (try clear hi)))
    go_ret
    exact ⟨by first | rfl | (simp [errW_none, errW_some] <;> rfl) | (simp only [← hji5]; first | rfl | (simp [errW_none, errW_some] <;> rfl)) | (simp [*, errW_none, errW_some] <;> rfl), zzg⟩
  ·rw [if_neg c7] at H
   exact absurd H (by simp)
 ·rw [if_neg c6] at H
  exact absurd H (by simp)
end Go.Proofs.Ytekenddkoahjgaa.Q
