import Derived.Test.YtekenddkoahjgaaHZc
import Derived.Test.YtekenddkoahjgaaHQx5
import Derived.Test.YtekenddkoahjgaaHQx14
import Derived.Test.YtekenddkoahjgaaHQx37
import Derived.Test.YtekenddkoahjgaaHQx9
import Derived.Test.YtekenddkoahjgaaHLB
import Derived.Test.YtekenddkoahjgaaHQx10
import Derived.Test.YtekenddkoahjgaaHQx32
namespace Go.Proofs.Ytekenddkoahjgaa.Q
open Go.RowKit Go.Proofs.YtekenddkoahjgaaW.PrintWords Go.Proofs.YtekenddkoahjgaaW.PrintLast Go.Proofs.YtekenddkoahjgaaW.PrintMore
attribute [local go_sem] max2_int min2_int max_two min_two max_three min_three max_four min_four
attribute [local go_sem] imax_u32 imax_u8 isg_u32 isg_u8
set_option linter.unusedVariables false
set_option linter.unusedSimpArgs false
def r08_Ends.f (k : Nat) (a0_0 : Int) (a0_1 : Int) (a0_2 : Int) (a0_3 : Int) (a0_4 : Int) : Option (Bool) := (r02_Right.f k a0_0 a0_1 a0_2 a0_3 a0_4).bind fun t454 => (if t454 = true then ((r02_Form.f a0_0).bind fun t455 => (if t455 = 66 then (some true) else (if a0_0 = 2 then (some true) else (if a0_0 = 3 then (some true) else (some (a0_0 == 46)))))) else (some true))
set_option maxHeartbeats 8000000 in
set_option maxRecDepth 100000 in
theorem r08_Ends.calls (k : Nat) (a0_0 : Int) (a0_1 : Int) (a0_2 : Int) (a0_3 : Int) (a0_4 : Int) (r : Bool) (w : World) (h : r08_Ends.f k a0_0 a0_1 a0_2 a0_3 a0_4 = some r) :
  Calls Try.prog 16 #[.agg #[.int .i64 a0_0, .int .i64 a0_1, .int .i64 a0_2, .int .i64 a0_3, .int .i64 a0_4]] w fun e w' => e = .returned (.bool r) ∧ Below w.heap.size w w' := by
 have hu23 := Try.underlying23
 have HB := zz (Below.refl w.heap.size w)
 have H : ((r02_Right.f k a0_0 a0_1 a0_2 a0_3 a0_4).bind fun t454 => (if t454 = true then ((r02_Form.f a0_0).bind fun t455 => (if t455 = 66 then (some true) else (if a0_0 = 2 then (some true) else (if a0_0 = 3 then (some true) else (some (a0_0 == 46)))))) else (some true))) = some r := h
 clear h
 replace H := Option.bind_eq_some_iff.mp H
 obtain ⟨t454, A20, H⟩ := H
 replace H : (if t454 = true then ((r02_Form.f a0_0).bind fun t455 => (if t455 = 66 then (some true) else (if a0_0 = 2 then (some true) else (if a0_0 = 3 then (some true) else (some (a0_0 == 46)))))) else (some true)) = some r := H
 have A2 := zz A20
 clear A20
 by_cases c3 : t454 = true
 ·subst c3
  have H1 : ((r02_Form.f a0_0).bind fun t455 => (if t455 = 66 then (some true) else (if a0_0 = 2 then (some true) else (if a0_0 = 3 then (some true) else (some (a0_0 == 46)))))) = some r := by rw [if_pos rfl] at H; exact H
  clear H
  have H := H1
  clear H1
  replace H := Option.bind_eq_some_iff.mp H
  obtain ⟨t455, A40, H⟩ := H
  replace H : (if t455 = 66 then (some true) else (if a0_0 = 2 then (some true) else (if a0_0 = 3 then (some true) else (some (a0_0 == 46))))) = some r := H
  have A4 := zz A40
  clear A40
  by_cases c5 : t455 = 66
  ·rw [if_pos c5] at H
   have c5b0 : (t455 == 66) = true := beq_iff_eq.mpr c5
   have c5b1 : (t455 != 66) = false := bne_eq_false_iff_eq.mpr c5
   clear c5
   obtain rfl := Option.some.inj H
   go_enter Try.func16, Try.ntmps16
   go_wp2_with (first | ((with_reducible refine gate_dst (N := 1) rfl ?_); refine box_event ?hg (N := 1) ?hd (cs := #[.int .i64 a0_0, .int .i64 a0_1, .int .i64 a0_2, .int .i64 a0_3, .int .i64 a0_4]) (t := 23) ?hr ?_; (case hd => rfl); (case hg => rfl); (case hr => first | (go_simp; done) | (go_simp; rfl)); intro gb453 hg w6 hbox hb; have n0_ := zz (below_step zzb hb); have n1_ := zz (hbox); have n2_ := zz ((zzn hg : w.heap.size ≤ gb453)); have n3_ := zz ((zzn hg : w.heap.size ≤ gb453)); clear HB; have HB := n0_; have BK453 := n1_; have GW453 := n2_; have GE453 := n3_; clear n0_ n1_ n2_ n3_; clear hb hbox hg; obtain ⟨hcz7_0, hcz7_1, hcz7_2, hcz7_3, hcz7_4⟩ := zzc5 BK453.out (.int .i64 a0_0) (.int .i64 a0_1) (.int .i64 a0_2) (.int .i64 a0_3) (.int .i64 a0_4); obtain ⟨hfz7_0, hfz7_1, hfz7_2, hfz7_3, hfz7_4⟩ := zzf5 BK453.out) | ((with_reducible refine gate_callee (f := 30) rfl ?_); refine goesL_ (some 4) rfl rfl Try.func30 (by kernel_rfl) rfl #[.agg #[.int .i64 a0_0, .int .i64 a0_1, .int .i64 a0_2, .int .i64 a0_3, .int .i64 a0_4]] rfl zza ?_; (with_reducible refine (r02_Right.calls k a0_0 a0_1 a0_2 a0_3 a0_4 true _ A2.out).mono ?_); rintro e w8 ⟨rfl, hb⟩; refine ⟨_, rfl, ?_⟩; have n0_ := zz (zzkb BK453.out hb); have n1_ := zz (below_step zzg hb); clear BK453; clear HB; have BK453 := n0_; have HB := n1_; clear n0_ n1_; (try clear hb); (try clear hb2); (try clear hk); (try clear hi); obtain ⟨hcz9_0, hcz9_1, hcz9_2, hcz9_3, hcz9_4⟩ := zzc5 BK453.out (.int .i64 a0_0) (.int .i64 a0_1) (.int .i64 a0_2) (.int .i64 a0_3) (.int .i64 a0_4); obtain ⟨hfz9_0, hfz9_1, hfz9_2, hfz9_3, hfz9_4⟩ := zzf5 BK453.out) | (go_at_call 31; (with_reducible refine (r02_Form.calls a0_0 t455 _ A4.out).mono ?_); rintro e w' ⟨rfl, ⟨nd, rfl⟩⟩))
   go_ret
   exact ⟨zze, zzg⟩
  ·rw [if_neg c5] at H
   have c5b0 : (t455 == 66) = false := beq_eq_false_iff_ne.mpr c5
   have c5b1 : (t455 != 66) = true := bne_iff_ne.mpr c5
   by_cases c10 : a0_0 = 2
   ·rw [if_pos c10] at H
    have c10b0 : (a0_0 == 2) = true := beq_iff_eq.mpr c10
    have c10b1 : (a0_0 != 2) = false := bne_eq_false_iff_eq.mpr c10
    clear c10
    obtain rfl := Option.some.inj H
    go_enter Try.func16, Try.ntmps16
    go_wp2_with (first | ((with_reducible refine gate_dst (N := 1) rfl ?_); refine box_event ?hg (N := 1) ?hd (cs := #[.int .i64 a0_0, .int .i64 a0_1, .int .i64 a0_2, .int .i64 a0_3, .int .i64 a0_4]) (t := 23) ?hr ?_; (case hd => rfl); (case hg => rfl); (case hr => first | (go_simp; done) | (go_simp; rfl)); intro gb453 hg w11 hbox hb; have n0_ := zz (below_step zzb hb); have n1_ := zz (hbox); have n2_ := zz ((zzn hg : w.heap.size ≤ gb453)); have n3_ := zz ((zzn hg : w.heap.size ≤ gb453)); clear HB; have HB := n0_; have BK453 := n1_; have GW453 := n2_; have GE453 := n3_; clear n0_ n1_ n2_ n3_; clear hb hbox hg; obtain ⟨hcz12_0, hcz12_1, hcz12_2, hcz12_3, hcz12_4⟩ := zzc5 BK453.out (.int .i64 a0_0) (.int .i64 a0_1) (.int .i64 a0_2) (.int .i64 a0_3) (.int .i64 a0_4); obtain ⟨hfz12_0, hfz12_1, hfz12_2, hfz12_3, hfz12_4⟩ := zzf5 BK453.out) | ((with_reducible refine gate_callee (f := 30) rfl ?_); refine goesL_ (some 4) rfl rfl Try.func30 (by kernel_rfl) rfl #[.agg #[.int .i64 a0_0, .int .i64 a0_1, .int .i64 a0_2, .int .i64 a0_3, .int .i64 a0_4]] rfl zza ?_; (with_reducible refine (r02_Right.calls k a0_0 a0_1 a0_2 a0_3 a0_4 true _ A2.out).mono ?_); rintro e w13 ⟨rfl, hb⟩; refine ⟨_, rfl, ?_⟩; have n0_ := zz (zzkb BK453.out hb); have n1_ := zz (below_step zzg hb); clear BK453; clear HB; have BK453 := n0_; have HB := n1_; clear n0_ n1_; (try clear hb); (try clear hb2); (try clear hk); (try clear hi); obtain ⟨hcz14_0, hcz14_1, hcz14_2, hcz14_3, hcz14_4⟩ := zzc5 BK453.out (.int .i64 a0_0) (.int .i64 a0_1) (.int .i64 a0_2) (.int .i64 a0_3) (.int .i64 a0_4); obtain ⟨hfz14_0, hfz14_1, hfz14_2, hfz14_3, hfz14_4⟩ := zzf5 BK453.out) | (go_at_call 31; (with_reducible refine (r02_Form.calls a0_0 t455 _ A4.out).mono ?_); rintro e w' ⟨rfl, ⟨nd, rfl⟩⟩))
    go_ret
    exact ⟨zze, zzg⟩
   ·rw [if_neg c10] at H
    have c10b0 : (a0_0 == 2) = false := beq_eq_false_iff_ne.mpr c10
    have c10b1 : (a0_0 != 2) = true := bne_iff_ne.mpr c10
    by_cases c15 : a0_0 = 3
    ·rw [if_pos c15] at H
     have c15b0 : (a0_0 == 3) = true := beq_iff_eq.mpr c15
     have c15b1 : (a0_0 != 3) = false := bne_eq_false_iff_eq.mpr c15
     clear c15
     obtain rfl := Option.some.inj H
     go_enter Try.func16, Try.ntmps16
     go_wp2_with (first | ((with_reducible refine gate_dst (N := 1) rfl ?_); refine box_event ?hg (N := 1) ?hd (cs := #[.int .i64 a0_0, .int .i64 a0_1, .int .i64 a0_2, .int .i64 a0_3, .int .i64 a0_4]) (t := 23) ?hr ?_; (case hd => rfl); (case hg => rfl); (case hr => first | (go_simp; done) | (go_simp; rfl)); intro gb453 hg w16 hbox hb; have n0_ := zz (below_step zzb hb); have n1_ := zz (hbox); have n2_ := zz ((zzn hg : w.heap.size ≤ gb453)); have n3_ := zz ((zzn hg : w.heap.size ≤ gb453)); clear HB; have HB := n0_; have BK453 := n1_; have GW453 := n2_; have GE453 := n3_; clear n0_ n1_ n2_ n3_; clear hb hbox hg; obtain ⟨hcz17_0, hcz17_1, hcz17_2, hcz17_3, hcz17_4⟩ := zzc5 BK453.out (.int .i64 a0_0) (.int .i64 a0_1) (.int .i64 a0_2) (.int .i64 a0_3) (.int .i64 a0_4); obtain ⟨hfz17_0, hfz17_1, hfz17_2, hfz17_3, hfz17_4⟩ := zzf5 BK453.out) | ((with_reducible refine gate_callee (f := 30) rfl ?_); refine goesL_ (some 4) rfl rfl Try.func30 (by kernel_rfl) rfl #[.agg #[.int .i64 a0_0, .int .i64 a0_1, .int .i64 a0_2, .int .i64 a0_3, .int .i64 a0_4]] rfl zza ?_; (with_reducible refine (r02_Right.calls k a0_0 a0_1 a0_2 a0_3 a0_4 true _ A2.out).mono ?_); rintro e w18 ⟨rfl, hb⟩; refine ⟨_, rfl, ?_⟩; have n0_ := zz (zzkb BK453.out hb); have n1_ := zz (below_step zzg hb); clear BK453; clear HB; have BK453 := n0_; have HB := n1_; clear n0_ n1_; (try clear hb); (try clear hb2); (try clear hk); (try clear hi); obtain ⟨hcz19_0, hcz19_1, hcz19_2, hcz19_3, hcz19_4⟩ := zzc5 BK453.out (.int .i64 a0_0) (.int .i64 a0_1) (.int .i64 a0_2) (.int .i64 a0_3) (.int .i64 a0_4); obtain ⟨hfz19_0, hfz19_1, hfz19_2, hfz19_3, hfz19_4⟩ := zzf5 BK453.out) | (go_at_call 31; (with_reducible refine (r02_Form.calls a0_0 t455 _ A4.out).mono ?_); rintro e w' ⟨rfl, ⟨nd, rfl⟩⟩))
     go_ret
     exact ⟨zze, zzg⟩
    ·rw [if_neg c15] at H
     have c15b0 : (a0_0 == 3) = false := beq_eq_false_iff_ne.mpr c15
     have c15b1 : (a0_0 != 3) = true := bne_iff_ne.mpr c15
     obtain rfl := Option.some.inj H
     go_enter Try.func16, Try.ntmps16
     go_wp2_with (first | ((with_reducible refine gate_dst (N := 1) rfl ?_); refine box_event ?hg (N := 1) ?hd (cs := #[.int .i64 a0_0, .int .i64 a0_1, .int .i64 a0_2, .int .i64 a0_3, .int .i64 a0_4]) (t := 23) ?hr ?_; (case hd => rfl); (case hg => rfl); (case hr => first | (go_simp; done) | (go_simp; rfl)); intro gb453 hg w20 hbox hb; have n0_ := zz (below_step zzb hb); have n1_ := zz (hbox); have n2_ := zz ((zzn hg : w.heap.size ≤ gb453)); have n3_ := zz ((zzn hg : w.heap.size ≤ gb453)); clear HB; have HB := n0_; have BK453 := n1_; have GW453 := n2_; have GE453 := n3_; clear n0_ n1_ n2_ n3_; clear hb hbox hg; obtain ⟨hcz21_0, hcz21_1, hcz21_2, hcz21_3, hcz21_4⟩ := zzc5 BK453.out (.int .i64 a0_0) (.int .i64 a0_1) (.int .i64 a0_2) (.int .i64 a0_3) (.int .i64 a0_4); obtain ⟨hfz21_0, hfz21_1, hfz21_2, hfz21_3, hfz21_4⟩ := zzf5 BK453.out) | ((with_reducible refine gate_callee (f := 30) rfl ?_); refine goesL_ (some 4) rfl rfl Try.func30 (by kernel_rfl) rfl #[.agg #[.int .i64 a0_0, .int .i64 a0_1, .int .i64 a0_2, .int .i64 a0_3, .int .i64 a0_4]] rfl zza ?_; (with_reducible refine (r02_Right.calls k a0_0 a0_1 a0_2 a0_3 a0_4 true _ A2.out).mono ?_); rintro e w22 ⟨rfl, hb⟩; refine ⟨_, rfl, ?_⟩; have n0_ := zz (zzkb BK453.out hb); have n1_ := zz (below_step zzg hb); clear BK453; clear HB; have BK453 := n0_; have HB := n1_; clear n0_ n1_; (try clear hb); (try clear hb2); (try clear hk); (try clear hi); obtain ⟨hcz23_0, hcz23_1, hcz23_2, hcz23_3, hcz23_4⟩ := zzc5 BK453.out (.int .i64 a0_0) (.int .i64 a0_1) (.int .i64 a0_2) (.int .i64 a0_3) (.int .i64 a0_4); obtain ⟨hfz23_0, hfz23_1, hfz23_2, hfz23_3, hfz23_4⟩ := zzf5 BK453.out) | (go_at_call 31; (with_reducible refine (r02_Form.calls a0_0 t455 _ A4.out).mono ?_); rintro e w' ⟨rfl, ⟨nd, rfl⟩⟩))
     go_ret
     exact ⟨zze, zzg⟩
 ·replace c3 := Bool.eq_false_iff.mpr c3
  subst c3
  have H1 : (some true) = some r := by rw [if_neg (show ¬ (false = true) by decide)] at H; exact H
  clear H
  have H := H1
  clear H1
  obtain rfl := Option.some.inj H
  go_enter Try.func16, Try.ntmps16
  go_wp2_with (first | ((with_reducible refine gate_dst (N := 1) rfl ?_); refine box_event ?hg (N := 1) ?hd (cs := #[.int .i64 a0_0, .int .i64 a0_1, .int .i64 a0_2, .int .i64 a0_3, .int .i64 a0_4]) (t := 23) ?hr ?_; (case hd => rfl); (case hg => rfl); (case hr => first | (go_simp; done) | (go_simp; rfl)); intro gb453 hg w24 hbox hb; have n0_ := zz (below_step zzb hb); have n1_ := zz (hbox); have n2_ := zz ((zzn hg : w.heap.size ≤ gb453)); have n3_ := zz ((zzn hg : w.heap.size ≤ gb453)); clear HB; have HB := n0_; have BK453 := n1_; have GW453 := n2_; have GE453 := n3_; clear n0_ n1_ n2_ n3_; clear hb hbox hg; obtain ⟨hcz25_0, hcz25_1, hcz25_2, hcz25_3, hcz25_4⟩ := zzc5 BK453.out (.int .i64 a0_0) (.int .i64 a0_1) (.int .i64 a0_2) (.int .i64 a0_3) (.int .i64 a0_4); obtain ⟨hfz25_0, hfz25_1, hfz25_2, hfz25_3, hfz25_4⟩ := zzf5 BK453.out) | ((with_reducible refine gate_callee (f := 30) rfl ?_); refine goesL_ (some 4) rfl rfl Try.func30 (by kernel_rfl) rfl #[.agg #[.int .i64 a0_0, .int .i64 a0_1, .int .i64 a0_2, .int .i64 a0_3, .int .i64 a0_4]] rfl zza ?_; (with_reducible refine (r02_Right.calls k a0_0 a0_1 a0_2 a0_3 a0_4 false _ A2.out).mono ?_); rintro e w26 ⟨rfl, hb⟩; refine ⟨_, rfl, ?_⟩; have n0_ := zz (zzkb BK453.out hb); have n1_ := zz (below_step zzg hb); clear BK453; clear HB; have BK453 := n0_; have HB := n1_; clear n0_ n1_; (try clear hb); (try clear hb2); (try clear hk); (try clear hi)))
  go_ret
  exact ⟨zze, zzg⟩
def r07_At.l0 : Nat → Int → Int → Int → Int → List Int → Int → Option (Int × Bool)
 | 0, _, _, _, _, _, _ => none
 | k + 1, x1, x6, x457000, x457001, x457002, x457003 => if x6 < (x457002.length : Int) then (if (Int.tmod x1 4) = 0 then (if (wrap64 (x1)) = (wrap64 ((wrap64 (x457000)) + (wrap64 (4 * x6)))) then (if 0 ≤ x6 then (some (rd x457002 x6, true)) else (none)) else (r07_At.l0 k x1 (wrap64 (x6 + 1)) x457000 x457001 x457002 x457003)) else (r07_At.l0 k x1 (wrap64 (x6 + 1)) x457000 x457001 x457002 x457003)) else (some (0, false))
def r07_At.f (k : Nat) (a0_0 : Int) (a0_1 : Int) (l0_2 : List Int) (a0_3 : Int) (a1 : Int) : Option (Int × Bool) := r07_At.l0 k a1 0 a0_0 a0_1 l0_2 a0_3
theorem r07_At.mono_l : ∀ k, (∀ y0 y1 y2 y3 y4 y5, LeO (r07_At.l0 k y0 y1 y2 y3 y4 y5) (r07_At.l0 (k + 1) y0 y1 y2 y3 y4 y5))
 | 0 => fun _ _ _ _ _ _ r h => by simp [r07_At.l0] at h
 | k + 1 => by
  have ih0 := r07_At.mono_l k
  ·intro y0 y1 y2 y3 y4 y5
   unfold r07_At.l0
   repeat' first
   | (with_reducible exact ih0 _ _ _ _ _ _)
   | (with_reducible exact LeO.refl _)
   | (with_reducible exact LeO.none _)
   | (with_reducible refine LeO.ite ?_ ?_)
   | (with_reducible refine LeO.bind ?_ (fun _ => ?_))
   | exact ih0 _ _ _ _ _ _
   | exact LeO.none _
   | refine LeO.ite ?_ ?_
   | refine LeO.bind ?_ (fun _ => ?_)
theorem r07_At.mono : ∀ a0 a1 a2 a3 a4 k, LeO (r07_At.f k a0 a1 a2 a3 a4) (r07_At.f (k + 1) a0 a1 a2 a3 a4) := by
 intro a0 a1 a2 a3 a4 k
 have ih0 := r07_At.mono_l k
 unfold r07_At.f
 repeat' first
   | (with_reducible exact ih0 _ _ _ _ _ _)
   | (with_reducible exact LeO.refl _)
   | (with_reducible exact LeO.none _)
   | (with_reducible refine LeO.ite ?_ ?_)
   | (with_reducible refine LeO.bind ?_ (fun _ => ?_))
   | exact ih0 _ _ _ _ _ _
   | exact LeO.none _
   | refine LeO.ite ?_ ?_
   | refine LeO.bind ?_ (fun _ => ?_)
set_option maxHeartbeats 8000000 in
set_option maxRecDepth 100000 in
theorem r07_At.calls (k : Nat) (a0_0 : Int) (a0_1 : Int) (A0_2 : Option Addr) (c0_2 : Nat) (l0_2 : List Int) (a0_3 : Int) (a1 : Int) (r1 : Int) (r2 : Bool) (w : World) (hr0_2 : Kd.C (Kd.int .u32) w A0_2 l0_2.length l0_2) (hc0_2 : l0_2.length ≤ c0_2) (h : r07_At.f k a0_0 a0_1 l0_2 a0_3 a1 = some (r1, r2)) :
  Calls Try.prog 44 #[.agg #[.int .u32 a0_0, .int .u32 a0_1, .slice A0_2 l0_2.length c0_2, .int .i64 a0_3], .int .u32 a1] w fun e w' => e = .returned (.tuple #[.int .u32 r1, .bool r2]) ∧ Below w.heap.size w w' := by
 have hu32 := Try.underlying32
 have HR0_2 := zz hr0_2
 have HC0_2 := zz hc0_2
 clear hr0_2 hc0_2
 have HB := zz (Below.refl w.heap.size w)
 have H : (r07_At.l0 k a1 0 a0_0 a0_1 l0_2 a0_3) = some (r1, r2) := h
 clear h
 have H' := zz H
 clear H
 go_enter Try.func44, Try.ntmps44
 go_wp2_with (first | ((with_reducible refine gate_dst (N := 2) rfl ?_); refine box_event ?hg (N := 2) ?hd (cs := #[.int .u32 a0_0, .int .u32 a0_1, .slice A0_2 l0_2.length c0_2, .int .i64 a0_3]) (t := 32) ?hr ?_; (case hd => rfl); (case hg => rfl); (case hr => first | (go_simp; done) | (go_simp; rfl)); intro gb456 hg w3 hbox hb; have n0_ := zz (below_step zzb hb); have n1_ := zz (hbox); have n2_ := zz ((zzn hg : w.heap.size ≤ gb456)); have n3_ := zz ((zzn hg : w.heap.size ≤ gb456)); clear HB; have HB := n0_; have BK456 := n1_; have GW456 := n2_; have GE456 := n3_; clear n0_ n1_ n2_ n3_; clear hb hbox hg))
 go_loopg [6] k (fun kq v6 w' => ∃ (x6_1 : Int), v6 = .int .i64 x6_1 ∧ Aside0 (r07_At.l0 kq a1 x6_1 a0_0 a0_1 l0_2 a0_3 = some (r1, r2)) ∧ Aside0 (kq ≤ k) ∧ Aside0 (w'.heap[gb456]? = some (.cells #[.int .u32 a0_0, .int .u32 a0_1, (.slice A0_2 l0_2.length c0_2), .int .i64 a0_3] 32 (0, 0))) ∧ Aside0 (Below w.heap.size w w'))
 case atStart => exact ⟨(0), (zzh), H', ⟨Nat.le_refl _⟩, ⟨by refine zzk ?_; exact BK456.out⟩, ⟨zzg⟩⟩
 case round =>
  clear H'
  try clear p2
  obtain ⟨x6_1, rfl, HA, HK1, BK456, HB⟩ := hrel
  cases gk with
  | zero => exact absurd HA.out (by simp [r07_At.l0])
  | succ k1 =>
   have H := HA.out
   clear HA
   simp only [r07_At.l0] at H
   by_cases c4 : x6_1 < (l0_2.length : Int)
   ·rw [if_pos c4] at H
    have c4b0 : decide (x6_1 < (l0_2.length : Int)) = true := decide_eq_true c4
    clear c4
    by_cases c5 : (Int.tmod a1 4) = 0
    ·rw [if_pos c5] at H
     have c5b0 : ((Int.tmod a1 4) == 0) = true := beq_iff_eq.mpr c5
     have c5b1 : ((Int.tmod a1 4) != 0) = false := bne_eq_false_iff_eq.mpr c5
     clear c5
     by_cases c6 : (wrap64 (a1)) = (wrap64 ((wrap64 (a0_0)) + (wrap64 (4 * x6_1))))
     ·rw [if_pos c6] at H
      have c6b0 : ((wrap64 (a1)) == (wrap64 ((wrap64 (a0_0)) + (wrap64 (4 * x6_1))))) = true := beq_iff_eq.mpr c6
      have c6b1 : ((wrap64 (a1)) != (wrap64 ((wrap64 (a0_0)) + (wrap64 (4 * x6_1))))) = false := bne_eq_false_iff_eq.mpr c6
      clear c6
      by_cases c7 : 0 ≤ x6_1
      ·rw [if_pos c7] at H
       have c7b0 : decide (0 ≤ x6_1) = true := decide_eq_true c7
       clear c7
       simp only [Option.some.injEq, Prod.mk.injEq] at H
       obtain ⟨rfl, rfl⟩ := H
       obtain ⟨hcz8_0, hcz8_1, hcz8_2, hcz8_3⟩ := zzc4 BK456.out (.int .u32 a0_0) (.int .u32 a0_1) (.slice A0_2 l0_2.length c0_2) (.int .i64 a0_3)
       obtain ⟨hfz8_0, hfz8_1, hfz8_2, hfz8_3⟩ := zzf4 BK456.out
       have p457 : 0 ≤ (x6_1 : Int) := of_decide_eq_true zzm
       have q457 : x6_1 < (l0_2.length : Int) := of_decide_eq_true zzm
       obtain ⟨ad457, e457, hx457_0⟩ := Kd.at_int HR0_2.out x6_1 p457 q457
       cases e457
       replace hx457_0 := (HB.out.cell (World.block_lt_of_cell? w _ hx457_0)).trans hx457_0
       replace p457 := eq_true p457
       replace q457 := eq_true q457
       go_wp2
       go_ret2
       exact ⟨zze, zzg⟩
      ·rw [if_neg c7] at H
       exact absurd H (by simp)
     ·rw [if_neg c6] at H
      have c6b0 : ((wrap64 (a1)) == (wrap64 ((wrap64 (a0_0)) + (wrap64 (4 * x6_1))))) = false := beq_eq_false_iff_ne.mpr c6
      have c6b1 : ((wrap64 (a1)) != (wrap64 ((wrap64 (a0_0)) + (wrap64 (4 * x6_1))))) = true := bne_iff_ne.mpr c6
      have H' := zz H
      clear H
      obtain ⟨hcz9_0, hcz9_1, hcz9_2, hcz9_3⟩ := zzc4 BK456.out (.int .u32 a0_0) (.int .u32 a0_1) (.slice A0_2 l0_2.length c0_2) (.int .i64 a0_3)
      obtain ⟨hfz9_0, hfz9_1, hfz9_2, hfz9_3⟩ := zzf4 BK456.out
      go_wp2
      go_roundg k1
      case measure => have := HK1.out; omega
      case rel => exact ⟨(wrap64 (x6_1 + 1)), (zzh), H', ⟨by have := HK1.out; omega⟩, ⟨by refine zzk ?_; exact BK456.out⟩, ⟨zzg⟩⟩
    ·rw [if_neg c5] at H
     have c5b0 : ((Int.tmod a1 4) == 0) = false := beq_eq_false_iff_ne.mpr c5
     have c5b1 : ((Int.tmod a1 4) != 0) = true := bne_iff_ne.mpr c5
     have H' := zz H
     clear H
     obtain ⟨hcz10_0, hcz10_1, hcz10_2, hcz10_3⟩ := zzc4 BK456.out (.int .u32 a0_0) (.int .u32 a0_1) (.slice A0_2 l0_2.length c0_2) (.int .i64 a0_3)
     obtain ⟨hfz10_0, hfz10_1, hfz10_2, hfz10_3⟩ := zzf4 BK456.out
     go_wp2
     go_roundg k1
     case measure => have := HK1.out; omega
     case rel => exact ⟨(wrap64 (x6_1 + 1)), (zzh), H', ⟨by have := HK1.out; omega⟩, ⟨by refine zzk ?_; exact BK456.out⟩, ⟨zzg⟩⟩
   ·rw [if_neg c4] at H
    have c4b0 : decide (x6_1 < (l0_2.length : Int)) = false := decide_eq_false c4
    clear c4
    simp only [Option.some.injEq, Prod.mk.injEq] at H
    obtain ⟨rfl, rfl⟩ := H
    obtain ⟨hcz11_0, hcz11_1, hcz11_2, hcz11_3⟩ := zzc4 BK456.out (.int .u32 a0_0) (.int .u32 a0_1) (.slice A0_2 l0_2.length c0_2) (.int .i64 a0_3)
    obtain ⟨hfz11_0, hfz11_1, hfz11_2, hfz11_3⟩ := zzf4 BK456.out
    go_wp2
    go_ret2
    exact ⟨zze, zzg⟩
def r08_At.f (k : Nat) (a0_0 : Int) (a0_1 : Int) (l0_2 : List Int) (a0_3 : Int) (a1 : Int) : Option (Int × Int × Int × Int × Int × Int) := (r07_At.f k a0_0 a0_1 l0_2 a0_3 a1).bind fun bt460 => (if bt460.2 = true then ((r02_Decode.f k bt460.1).bind fun bt462 => (if bt462.2.2.2.2.2 = 0 then (some (bt462.1, bt462.2.1, bt462.2.2.1, bt462.2.2.2.1, bt462.2.2.2.2.1, 0)) else (some (0, 0, 0, 0, 0, 80)))) else (some (0, 0, 0, 0, 0, 81)))
set_option maxHeartbeats 8000000 in
set_option maxRecDepth 100000 in
theorem r08_At.calls (k : Nat) (a0_0 : Int) (a0_1 : Int) (A0_2 : Option Addr) (c0_2 : Nat) (l0_2 : List Int) (a0_3 : Int) (a1 : Int) (r1 : Int) (r2 : Int) (r3 : Int) (r4 : Int) (r5 : Int) (r6 : Int) (w : World) (hr0_2 : Kd.C (Kd.int .u32) w A0_2 l0_2.length l0_2) (hc0_2 : l0_2.length ≤ c0_2) (h : r08_At.f k a0_0 a0_1 l0_2 a0_3 a1 = some (r1, r2, r3, r4, r5, r6)) :
  Calls Try.prog 25 #[.agg #[.int .u32 a0_0, .int .u32 a0_1, .slice A0_2 l0_2.length c0_2, .int .i64 a0_3], .int .u32 a1] w fun e w' => e = .returned (.tuple #[.agg #[.int .i64 r1, .int .i64 r2, .int .i64 r3, .int .i64 r4, .int .i64 r5], .int .i64 r6]) ∧ Below w.heap.size w w' := by
 have hu32 := Try.underlying32
 have hu23 := Try.underlying23
 have HR0_2 := zz hr0_2
 have HC0_2 := zz hc0_2
 clear hr0_2 hc0_2
 have HB := zz (Below.refl w.heap.size w)
 have H : ((r07_At.f k a0_0 a0_1 l0_2 a0_3 a1).bind fun bt460 => (if bt460.2 = true then ((r02_Decode.f k bt460.1).bind fun bt462 => (if bt462.2.2.2.2.2 = 0 then (some (bt462.1, bt462.2.1, bt462.2.2.1, bt462.2.2.2.1, bt462.2.2.2.2.1, 0)) else (some (0, 0, 0, 0, 0, 80)))) else (some (0, 0, 0, 0, 0, 81)))) = some (r1, r2, r3, r4, r5, r6) := h
 clear h
 replace H := Option.bind_eq_some_iff.mp H
 obtain ⟨⟨t460, t461⟩, A30, H⟩ := H
 replace H : (if t461 = true then ((r02_Decode.f k t460).bind fun bt462 => (if bt462.2.2.2.2.2 = 0 then (some (bt462.1, bt462.2.1, bt462.2.2.1, bt462.2.2.2.1, bt462.2.2.2.2.1, 0)) else (some (0, 0, 0, 0, 0, 80)))) else (some (0, 0, 0, 0, 0, 81))) = some (r1, r2, r3, r4, r5, r6) := H
 have A3 := zz A30
 clear A30
 by_cases c4 : t461 = true
 ·subst c4
  have H1 : ((r02_Decode.f k t460).bind fun bt462 => (if bt462.2.2.2.2.2 = 0 then (some (bt462.1, bt462.2.1, bt462.2.2.1, bt462.2.2.2.1, bt462.2.2.2.2.1, 0)) else (some (0, 0, 0, 0, 0, 80)))) = some (r1, r2, r3, r4, r5, r6) := by rw [if_pos rfl] at H; exact H
  clear H
  have H := H1
  clear H1
  replace H := Option.bind_eq_some_iff.mp H
  obtain ⟨⟨t462, t463, t464, t465, t466, t467⟩, A50, H⟩ := H
  replace H : (if t467 = 0 then (some (t462, t463, t464, t465, t466, 0)) else (some (0, 0, 0, 0, 0, 80))) = some (r1, r2, r3, r4, r5, r6) := H
  have A5 := zz A50
  clear A50
  by_cases c6 : t467 = 0
  ·rw [if_pos c6] at H
   have c6b0 : (t467 == 0) = true := beq_iff_eq.mpr c6
   have c6b1 : (t467 != 0) = false := bne_eq_false_iff_eq.mpr c6
   clear c6
   simp only [Option.some.injEq, Prod.mk.injEq] at H
   obtain ⟨rfl, rfl, rfl, rfl, rfl, rfl⟩ := H
   go_enter Try.func25, Try.ntmps25
   go_wp2_with (first | ((with_reducible refine gate_dst (N := 2) rfl ?_); refine box_event ?hg (N := 2) ?hd (cs := #[.int .u32 a0_0, .int .u32 a0_1, .slice A0_2 l0_2.length c0_2, .int .i64 a0_3]) (t := 32) ?hr ?_; (case hd => rfl); (case hg => rfl); (case hr => first | (go_simp; done) | (go_simp; rfl)); intro gb458 hg w7 hbox hb; have n0_ := zz (below_step zzb hb); have n1_ := zz (hbox); have n2_ := zz ((zzn hg : w.heap.size ≤ gb458)); have n3_ := zz ((zzn hg : w.heap.size ≤ gb458)); clear HB; have HB := n0_; have BK458 := n1_; have GW458 := n2_; have GE458 := n3_; clear n0_ n1_ n2_ n3_; clear hb hbox hg) | ((with_reducible refine gate_dst (N := 4) rfl ?_); refine box_event ?hg (N := 4) ?hd (cs := #[.int .i64 0, .int .i64 0, .int .i64 0, .int .i64 0, .int .i64 0]) (t := 23) ?hr ?_; (case hd => rfl); (case hg => rfl); (case hr => first | (go_simp; done) | (go_simp; rfl)); intro gb459 hg w8 hbox hb; have n0_ := zz (zzkb BK458.out hb); have n1_ := zz (below_step zzg hb); have n2_ := zz (hbox); have n3_ := zz ((zzn hg : w.heap.size ≤ gb459)); have n4_ := zz ((zzn hg : w.heap.size ≤ gb459)); have n5_ := zz ((zzx hg BK458.out : gb458 ≠ gb459)); have n6_ := zz ((zzy hg BK458.out : gb459 ≠ gb458)); clear BK458; clear HB; have BK458 := n0_; have HB := n1_; have BK459 := n2_; have GW459 := n3_; have GE459 := n4_; have NB458_459 := n5_; have NB459_458 := n6_; clear n0_ n1_ n2_ n3_ n4_ n5_ n6_; clear hb hbox hg; have hnb9 := NB458_459.out; have hnc9 := NB459_458.out; obtain ⟨hcz10_0, hcz10_1, hcz10_2, hcz10_3⟩ := zzc4 BK458.out (.int .u32 a0_0) (.int .u32 a0_1) (.slice A0_2 l0_2.length c0_2) (.int .i64 a0_3); obtain ⟨hfz10_0, hfz10_1, hfz10_2, hfz10_3⟩ := zzf4 BK458.out) | ((with_reducible refine gate_callee (f := 44) rfl ?_); refine goesL_ (some 13) rfl rfl Try.func44 (by kernel_rfl) rfl #[.agg #[.int .u32 a0_0, .int .u32 a0_1, .slice A0_2 l0_2.length c0_2, .int .i64 a0_3], .int .u32 a1] rfl zza ?_; (with_reducible refine (r07_At.calls k a0_0 a0_1 _ _ l0_2 a0_3 a1 t460 true _ ?side1 ?side2 A3.out).mono ?_); (case side1 => repeat (first | exact (Kd.C_below HR0_2.out HB.out) | (with_reducible refine Kd.C_alloc ?_ _) | (with_reducible refine Kd.C_drewN ?_ _) | (with_reducible refine Kd.C_drew ?_))); (case side2 => exact HC0_2.out); rintro e w11 ⟨rfl, hb⟩; refine ⟨_, rfl, ?_⟩; have n0_ := zz (zzkb BK458.out hb); have n1_ := zz (zzkb BK459.out hb); have n2_ := zz (below_step zzg hb); clear BK458; clear BK459; clear HB; have BK458 := n0_; have BK459 := n1_; have HB := n2_; clear n0_ n1_ n2_; (try clear hb); (try clear hb2); (try clear hk); (try clear hi)) | ((with_reducible refine gate_callee (f := 45) rfl ?_); refine goesL_ (some 21) rfl rfl Try.func45 (by kernel_rfl) rfl #[.int .u32 t460] rfl zza ?_; (with_reducible refine (r02_Decode.calls k t460 t462 t463 t464 t465 t466 t467 _ A5.out).mono ?_); rintro e w12 ⟨rfl, hb⟩; refine ⟨_, rfl, ?_⟩; have n0_ := zz (zzkb BK458.out hb); have n1_ := zz (zzkb BK459.out hb); have n2_ := zz (below_step zzg hb); clear BK458; clear BK459; clear HB; have BK458 := n0_; have BK459 := n1_; have HB := n2_; clear n0_ n1_ n2_; (try clear hb); (try clear hb2); (try clear hk); (try clear hi)) | ((with_reducible refine gate_dst (N := 8) rfl ?_); refine box_event ?hg (N := 8) ?hd (cs := #[.int .i64 0, .int .i64 0, .int .i64 0, .int .i64 0, .int .i64 0]) (t := 23) ?hr ?_; (case hd => rfl); (case hg => rfl); (case hr => first | (go_simp; done) | (go_simp; rfl)); intro gb468 hg w13 hbox hb; have n0_ := zz (zzkb BK458.out hb); have n1_ := zz (zzkb BK459.out hb); have n2_ := zz (below_step zzg hb); have n3_ := zz (hbox); have n4_ := zz ((zzn hg : w.heap.size ≤ gb468)); have n5_ := zz ((zzn hg : w.heap.size ≤ gb468)); have n6_ := zz ((zzx hg BK458.out : gb458 ≠ gb468)); have n7_ := zz ((zzy hg BK458.out : gb468 ≠ gb458)); have n8_ := zz ((zzx hg BK459.out : gb459 ≠ gb468)); have n9_ := zz ((zzy hg BK459.out : gb468 ≠ gb459)); clear BK458; clear BK459; clear HB; have BK458 := n0_; have BK459 := n1_; have HB := n2_; have BK468 := n3_; have GW468 := n4_; have GE468 := n5_; have NB458_468 := n6_; have NB468_458 := n7_; have NB459_468 := n8_; have NB468_459 := n9_; clear n0_ n1_ n2_ n3_ n4_ n5_ n6_ n7_ n8_ n9_; clear hb hbox hg; have hnb14 := NB468_458.out; have hnc14 := NB458_468.out; have hnb15 := NB468_459.out; have hnc15 := NB459_468.out; obtain ⟨hcz16_0, hcz16_1, hcz16_2, hcz16_3, hcz16_4⟩ := zzc5 BK468.out (.int .i64 0) (.int .i64 0) (.int .i64 0) (.int .i64 0) (.int .i64 0); obtain ⟨hfz16_0, hfz16_1, hfz16_2, hfz16_3, hfz16_4⟩ := zzf5 BK468.out; obtain ⟨hcz17_0, hcz17_1, hcz17_2, hcz17_3, hcz17_4⟩ := zzc5 BK459.out (.int .i64 0) (.int .i64 0) (.int .i64 0) (.int .i64 0) (.int .i64 0); obtain ⟨hfz17_0, hfz17_1, hfz17_2, hfz17_3, hfz17_4⟩ := zzf5 BK459.out))
   refine bodyPost_ret (results_ct rfl _ _ gb459 23 #[.int .i64 t462, .int .i64 t463, .int .i64 t464, .int .i64 t465, .int .i64 t466] (0, 0) _ rfl (by refine zzk ?_; refine blk_put (cs := #[.int .i64 t462, .int .i64 t463, .int .i64 t464, .int .i64 t465, .int .i64 0]) ?_ 4 _ rfl; refine zzk ?_; refine blk_put (cs := #[.int .i64 t462, .int .i64 t463, .int .i64 t464, .int .i64 0, .int .i64 0]) ?_ 3 _ rfl; refine zzk ?_; refine blk_put (cs := #[.int .i64 t462, .int .i64 t463, .int .i64 0, .int .i64 0, .int .i64 0]) ?_ 2 _ rfl; refine zzk ?_; refine blk_put (cs := #[.int .i64 t462, .int .i64 0, .int .i64 0, .int .i64 0, .int .i64 0]) ?_ 1 _ rfl; refine zzk ?_; refine blk_put (cs := #[.int .i64 0, .int .i64 0, .int .i64 0, .int .i64 0, .int .i64 0]) ?_ 0 _ rfl; refine zzk ?_; refine blk_far ?_ NB459_468.out _; refine zzk ?_; refine blk_far ?_ NB459_468.out _; refine zzk ?_; refine blk_far ?_ NB459_468.out _; refine zzk ?_; refine blk_far ?_ NB459_468.out _; refine zzk ?_; refine blk_far ?_ NB459_468.out _; refine zzk ?_; exact BK459.out) Try.underlying23 rfl (by kernel_rfl)) rfl ?_
   exact ⟨zze, zzg⟩
  ·rw [if_neg c6] at H
   have c6b0 : (t467 == 0) = false := beq_eq_false_iff_ne.mpr c6
   have c6b1 : (t467 != 0) = true := bne_iff_ne.mpr c6
   simp only [Option.some.injEq, Prod.mk.injEq] at H
   obtain ⟨rfl, rfl, rfl, rfl, rfl, rfl⟩ := H
   go_enter Try.func25, Try.ntmps25
   go_wp2_with (first | ((with_reducible refine gate_dst (N := 2) rfl ?_); refine box_event ?hg (N := 2) ?hd (cs := #[.int .u32 a0_0, .int .u32 a0_1, .slice A0_2 l0_2.length c0_2, .int .i64 a0_3]) (t := 32) ?hr ?_; (case hd => rfl); (case hg => rfl); (case hr => first | (go_simp; done) | (go_simp; rfl)); intro gb458 hg w18 hbox hb; have n0_ := zz (below_step zzb hb); have n1_ := zz (hbox); have n2_ := zz ((zzn hg : w.heap.size ≤ gb458)); have n3_ := zz ((zzn hg : w.heap.size ≤ gb458)); clear HB; have HB := n0_; have BK458 := n1_; have GW458 := n2_; have GE458 := n3_; clear n0_ n1_ n2_ n3_; clear hb hbox hg) | ((with_reducible refine gate_dst (N := 4) rfl ?_); refine box_event ?hg (N := 4) ?hd (cs := #[.int .i64 0, .int .i64 0, .int .i64 0, .int .i64 0, .int .i64 0]) (t := 23) ?hr ?_; (case hd => rfl); (case hg => rfl); (case hr => first | (go_simp; done) | (go_simp; rfl)); intro gb459 hg w19 hbox hb; have n0_ := zz (zzkb BK458.out hb); have n1_ := zz (below_step zzg hb); have n2_ := zz (hbox); have n3_ := zz ((zzn hg : w.heap.size ≤ gb459)); have n4_ := zz ((zzn hg : w.heap.size ≤ gb459)); have n5_ := zz ((zzx hg BK458.out : gb458 ≠ gb459)); have n6_ := zz ((zzy hg BK458.out : gb459 ≠ gb458)); clear BK458; clear HB; have BK458 := n0_; have HB := n1_; have BK459 := n2_; have GW459 := n3_; have GE459 := n4_; have NB458_459 := n5_; have NB459_458 := n6_; clear n0_ n1_ n2_ n3_ n4_ n5_ n6_; clear hb hbox hg; have hnb20 := NB458_459.out; have hnc20 := NB459_458.out; obtain ⟨hcz21_0, hcz21_1, hcz21_2, hcz21_3⟩ := zzc4 BK458.out (.int .u32 a0_0) (.int .u32 a0_1) (.slice A0_2 l0_2.length c0_2) (.int .i64 a0_3); obtain ⟨hfz21_0, hfz21_1, hfz21_2, hfz21_3⟩ := zzf4 BK458.out) | ((with_reducible refine gate_callee (f := 44) rfl ?_); refine goesL_ (some 13) rfl rfl Try.func44 (by kernel_rfl) rfl #[.agg #[.int .u32 a0_0, .int .u32 a0_1, .slice A0_2 l0_2.length c0_2, .int .i64 a0_3], .int .u32 a1] rfl zza ?_; (with_reducible refine (r07_At.calls k a0_0 a0_1 _ _ l0_2 a0_3 a1 t460 true _ ?side1 ?side2 A3.out).mono ?_); (case side1 => repeat (first | exact (Kd.C_below HR0_2.out HB.out) | (with_reducible refine Kd.C_alloc ?_ _) | (with_reducible refine Kd.C_drewN ?_ _) | (with_reducible refine Kd.C_drew ?_))); (case side2 => exact HC0_2.out); rintro e w22 ⟨rfl, hb⟩; refine ⟨_, rfl, ?_⟩; have n0_ := zz (zzkb BK458.out hb); have n1_ := zz (zzkb BK459.out hb); have n2_ := zz (below_step zzg hb); clear BK458; clear BK459; clear HB; have BK458 := n0_; have BK459 := n1_; have HB := n2_; clear n0_ n1_ n2_; (try clear hb); (try clear hb2); (try clear hk); (try clear hi)) | ((with_reducible refine gate_callee (f := 45) rfl ?_); refine goesL_ (some 21) rfl rfl Try.func45 (by kernel_rfl) rfl #[.int .u32 t460] rfl zza ?_; (with_reducible refine (r02_Decode.calls k t460 t462 t463 t464 t465 t466 t467 _ A5.out).mono ?_); rintro e w23 ⟨rfl, hb⟩; refine ⟨_, rfl, ?_⟩; have n0_ := zz (zzkb BK458.out hb); have n1_ := zz (zzkb BK459.out hb); have n2_ := zz (below_step zzg hb); clear BK458; clear BK459; clear HB; have BK458 := n0_; have BK459 := n1_; have HB := n2_; clear n0_ n1_ n2_; (try clear hb); (try clear hb2); (try clear hk); (try clear hi)) | ((with_reducible refine gate_dst (N := 8) rfl ?_); refine box_event ?hg (N := 8) ?hd (cs := #[.int .i64 0, .int .i64 0, .int .i64 0, .int .i64 0, .int .i64 0]) (t := 23) ?hr ?_; (case hd => rfl); (case hg => rfl); (case hr => first | (go_simp; done) | (go_simp; rfl)); intro gb468 hg w24 hbox hb; have n0_ := zz (zzkb BK458.out hb); have n1_ := zz (zzkb BK459.out hb); have n2_ := zz (below_step zzg hb); have n3_ := zz (hbox); have n4_ := zz ((zzn hg : w.heap.size ≤ gb468)); have n5_ := zz ((zzn hg : w.heap.size ≤ gb468)); have n6_ := zz ((zzx hg BK458.out : gb458 ≠ gb468)); have n7_ := zz ((zzy hg BK458.out : gb468 ≠ gb458)); have n8_ := zz ((zzx hg BK459.out : gb459 ≠ gb468)); have n9_ := zz ((zzy hg BK459.out : gb468 ≠ gb459)); clear BK458; clear BK459; clear HB; have BK458 := n0_; have BK459 := n1_; have HB := n2_; have BK468 := n3_; have GW468 := n4_; have GE468 := n5_; have NB458_468 := n6_; have NB468_458 := n7_; have NB459_468 := n8_; have NB468_459 := n9_; clear n0_ n1_ n2_ n3_ n4_ n5_ n6_ n7_ n8_ n9_; clear hb hbox hg; have hnb25 := NB468_458.out; have hnc25 := NB458_468.out; have hnb26 := NB468_459.out; have hnc26 := NB459_468.out; obtain ⟨hcz27_0, hcz27_1, hcz27_2, hcz27_3, hcz27_4⟩ := zzc5 BK468.out (.int .i64 0) (.int .i64 0) (.int .i64 0) (.int .i64 0) (.int .i64 0); obtain ⟨hfz27_0, hfz27_1, hfz27_2, hfz27_3, hfz27_4⟩ := zzf5 BK468.out; obtain ⟨hcz28_0, hcz28_1, hcz28_2, hcz28_3, hcz28_4⟩ := zzc5 BK459.out (.int .i64 0) (.int .i64 0) (.int .i64 0) (.int .i64 0) (.int .i64 0); obtain ⟨hfz28_0, hfz28_1, hfz28_2, hfz28_3, hfz28_4⟩ := zzf5 BK459.out))
   refine bodyPost_ret (results_ct rfl _ _ gb459 23 #[.int .i64 0, .int .i64 0, .int .i64 0, .int .i64 0, .int .i64 0] (0, 0) _ rfl (by refine zzk ?_; refine blk_put (cs := #[.int .i64 0, .int .i64 0, .int .i64 0, .int .i64 0, .int .i64 0]) ?_ 4 _ rfl; refine zzk ?_; refine blk_put (cs := #[.int .i64 0, .int .i64 0, .int .i64 0, .int .i64 0, .int .i64 0]) ?_ 3 _ rfl; refine zzk ?_; refine blk_put (cs := #[.int .i64 0, .int .i64 0, .int .i64 0, .int .i64 0, .int .i64 0]) ?_ 2 _ rfl; refine zzk ?_; refine blk_put (cs := #[.int .i64 0, .int .i64 0, .int .i64 0, .int .i64 0, .int .i64 0]) ?_ 1 _ rfl; refine zzk ?_; refine blk_put (cs := #[.int .i64 0, .int .i64 0, .int .i64 0, .int .i64 0, .int .i64 0]) ?_ 0 _ rfl; refine zzk ?_; refine blk_far ?_ NB459_468.out _; refine zzk ?_; refine blk_far ?_ NB459_468.out _; refine zzk ?_; refine blk_far ?_ NB459_468.out _; refine zzk ?_; refine blk_far ?_ NB459_468.out _; refine zzk ?_; refine blk_far ?_ NB459_468.out _; refine zzk ?_; exact BK459.out) Try.underlying23 rfl (by kernel_rfl)) rfl ?_
   exact ⟨zze, zzg⟩
 ·replace c4 := Bool.eq_false_iff.mpr c4
  subst c4
  have H1 : (some (0, 0, 0, 0, 0, 81)) = some (r1, r2, r3, r4, r5, r6) := by rw [if_neg (show ¬ (false = true) by decide)] at H; exact H
  clear H
  have H := H1
  clear H1
  simp only [Option.some.injEq, Prod.mk.injEq] at H
  obtain ⟨rfl, rfl, rfl, rfl, rfl, rfl⟩ := H
  go_enter Try.func25, Try.ntmps25
  go_wp2_with (first | ((with_reducible refine gate_dst (N := 2) rfl ?_); refine box_event ?hg (N := 2) ?hd (cs := #[.int .u32 a0_0, .int .u32 a0_1, .slice A0_2 l0_2.length c0_2, .int .i64 a0_3]) (t := 32) ?hr ?_; (case hd => rfl); (case hg => rfl); (case hr => first | (go_simp; done) | (go_simp; rfl)); intro gb458 hg w29 hbox hb; have n0_ := zz (below_step zzb hb); have n1_ := zz (hbox); have n2_ := zz ((zzn hg : w.heap.size ≤ gb458)); have n3_ := zz ((zzn hg : w.heap.size ≤ gb458)); clear HB; have HB := n0_; have BK458 := n1_; have GW458 := n2_; have GE458 := n3_; clear n0_ n1_ n2_ n3_; clear hb hbox hg) | ((with_reducible refine gate_dst (N := 4) rfl ?_); refine box_event ?hg (N := 4) ?hd (cs := #[.int .i64 0, .int .i64 0, .int .i64 0, .int .i64 0, .int .i64 0]) (t := 23) ?hr ?_; (case hd => rfl); (case hg => rfl); (case hr => first | (go_simp; done) | (go_simp; rfl)); intro gb459 hg w30 hbox hb; have n0_ := zz (zzkb BK458.out hb); have n1_ := zz (below_step zzg hb); have n2_ := zz (hbox); have n3_ := zz ((zzn hg : w.heap.size ≤ gb459)); have n4_ := zz ((zzn hg : w.heap.size ≤ gb459)); have n5_ := zz ((zzx hg BK458.out : gb458 ≠ gb459)); have n6_ := zz ((zzy hg BK458.out : gb459 ≠ gb458)); clear BK458; clear HB; have BK458 := n0_; have HB := n1_; have BK459 := n2_; have GW459 := n3_; have GE459 := n4_; have NB458_459 := n5_; have NB459_458 := n6_; clear n0_ n1_ n2_ n3_ n4_ n5_ n6_; clear hb hbox hg; have hnb31 := NB458_459.out; have hnc31 := NB459_458.out; obtain ⟨hcz32_0, hcz32_1, hcz32_2, hcz32_3⟩ := zzc4 BK458.out (.int .u32 a0_0) (.int .u32 a0_1) (.slice A0_2 l0_2.length c0_2) (.int .i64 a0_3); obtain ⟨hfz32_0, hfz32_1, hfz32_2, hfz32_3⟩ := zzf4 BK458.out) | ((with_reducible refine gate_callee (f := 44) rfl ?_); refine goesL_ (some 13) rfl rfl Try.func44 (by kernel_rfl) rfl #[.agg #[.int .u32 a0_0, .int .u32 a0_1, .slice A0_2 l0_2.length c0_2, .int .i64 a0_3], .int .u32 a1] rfl zza ?_; (with_reducible refine (r07_At.calls k a0_0 a0_1 _ _ l0_2 a0_3 a1 t460 false _ ?side1 ?side2 A3.out).mono ?_); (case side1 => repeat (first | exact (Kd.C_below HR0_2.out HB.out) | (with_reducible refine Kd.C_alloc ?_ _) | (with_reducible refine Kd.C_drewN ?_ _) | (with_reducible refine Kd.C_drew ?_))); (case side2 => exact HC0_2.out); rintro e w33 ⟨rfl, hb⟩; refine ⟨_, rfl, ?_⟩; have n0_ := zz (zzkb BK458.out hb); have n1_ := zz (zzkb BK459.out hb); have n2_ := zz (below_step zzg hb); clear BK458; clear BK459; clear HB; have BK458 := n0_; have BK459 := n1_; have HB := n2_; clear n0_ n1_ n2_; (try clear hb); (try clear hb2); (try clear hk); (try clear hi); obtain ⟨hcz34_0, hcz34_1, hcz34_2, hcz34_3, hcz34_4⟩ := zzc5 BK459.out (.int .i64 0) (.int .i64 0) (.int .i64 0) (.int .i64 0) (.int .i64 0); obtain ⟨hfz34_0, hfz34_1, hfz34_2, hfz34_3, hfz34_4⟩ := zzf5 BK459.out))
  refine bodyPost_ret (results_ct rfl _ _ gb459 23 #[.int .i64 0, .int .i64 0, .int .i64 0, .int .i64 0, .int .i64 0] (0, 0) _ rfl (by refine zzk ?_; refine blk_put (cs := #[.int .i64 0, .int .i64 0, .int .i64 0, .int .i64 0, .int .i64 0]) ?_ 4 _ rfl; refine zzk ?_; refine blk_put (cs := #[.int .i64 0, .int .i64 0, .int .i64 0, .int .i64 0, .int .i64 0]) ?_ 3 _ rfl; refine zzk ?_; refine blk_put (cs := #[.int .i64 0, .int .i64 0, .int .i64 0, .int .i64 0, .int .i64 0]) ?_ 2 _ rfl; refine zzk ?_; refine blk_put (cs := #[.int .i64 0, .int .i64 0, .int .i64 0, .int .i64 0, .int .i64 0]) ?_ 1 _ rfl; refine zzk ?_; refine blk_put (cs := #[.int .i64 0, .int .i64 0, .int .i64 0, .int .i64 0, .int .i64 0]) ?_ 0 _ rfl; refine zzk ?_; exact BK459.out) Try.underlying23 rfl (by kernel_rfl)) rfl ?_
  exact ⟨zze, zzg⟩
def rfm (op : Int) : Int := (r02_Form.f op).getD 0
def rrg (x : Bl.Ins) : Bool := (r02_Right.f 200 x.1 x.2.1 x.2.2.1 x.2.2.2.1 x.2.2.2.2).getD false
theorem rfm3 : rfm 3 ≠ 66 := by decide +kernel
def r08_After.f (a0_0 : Int) (a0_1 : Int) (a0_2 : Int) (a0_3 : Int) (a0_4 : Int) (a1 : Int) : Option (List Int) :=
 if (0 ≤ a1 ∧ a1 < 4294967296) ∧ (r02_Form.f a0_0).isSome = true ∧ (r02_Right.f 200 a0_0 a0_1 a0_2 a0_3 a0_4).isSome = true then some (castL (Bl.aftv rfm rrg (a0_0, a0_1, a0_2, a0_3, a0_4) a1.toNat)) else none
theorem rEnds_all (op rd u v m : Int) : r08_Ends.f 200 op rd u v m = some (endq (op, rd, u, v, m)) := by
 rw [← blocks_Ends_eq op rd u v m 200 (by decide)]
 unfold r08_Ends.f blocks_Ends.f
 rw [rRight_eq, Right_eq _ _ _ _ _ 200 (by decide), rForm_eq, Form_eq]
theorem rfmE : rfm = frm := by
 funext op
 unfold rfm
 rw [rForm_eq]
 rfl
theorem rrgE : rrg = rgt := by
 funext x
 unfold rrg rgt
 rw [rRight_eq]
 rfl
theorem rAftC : Bl.rAfterC aftq := by
 intro op rd u v m a w ha
 have hf : r08_After.f op rd u v m (a : Int) = some (castL (aftq (op, rd, u, v, m) a)) := by
  unfold r08_After.f
  rw [if_pos ⟨⟨by omega, by omega⟩, by rw [rForm_eq]; rfl, by rw [rRight_eq]; rfl⟩, Int.toNat_natCast, rfmE, rrgE]
  rfl
 have h3 : frm 3 ≠ 66 := by rw [← rfmE]; exact rfm3
 refine (Bl.rAfter_calls frm rgt h3 op rd u v m (fun w => (r02_Form.calls op (frm op) w (rForm_eq op)).mono fun _ _ h => ⟨h.1, h.2.below⟩) (fun w => r02_Right.calls 200 op rd u v m _ w (rRight_eq _ _ _ _ _)) a w _ rfl).mono ?_
 exact fun _ _ h => h
theorem rdW (l : List Int) (j : Nat) (x : Int) (h : l[j]? = some x) : rd l (j : Int) = x := by
 show l.getD (Int.toNat (j : Int)) 0 = x
 rw [Int.toNat_natCast, List.getD_eq_getElem?_getD, h]
 rfl
theorem r07_from (B : Nat) (hB : B < 4294967296) (e s : Int) (l : List Int) (hl : l.length ≤ 1000) (h0 : ∀ x ∈ l, 0 ≤ x) (a : Nat) (ha : a < 4294967296) : ∀ (d j : Nat), j + d = l.length → (∀ i, i < j → ¬ (a % 4 = 0 ∧ a = B + 4 * i)) →
  r07_At.l0 (d + 1) (a : Int) (j : Int) (B : Int) e l s = some (match Bl.wordv B (natL l) a with | none => (0, false) | some v => ((v : Int), true))
 | 0, j, h, hn => by
  have hw : Bl.wordv B (natL l) a = none := by
   unfold Bl.wordv
   split
   ·rename_i hc
    rw [List.getElem?_eq_none]
    simp only [natL, List.length_map]
    exact Classical.byContradiction fun hlt => hn ((a - B) / 4) (by omega) ⟨hc.1, by omega⟩
   ·rfl
  rw [hw, r07_At.l0, if_neg (by omega)]
 | d + 1, j, h, hn => by
  have hj : j < l.length := by omega
  have t4 : Int.tmod (a : Int) 4 = ((a % 4 : Nat) : Int) := rfl
  have w1 : wrap64 (a : Int) = (a : Int) := by unfold wrap64; omega
  have w2 : wrap64 (B : Int) = (B : Int) := by unfold wrap64; omega
  have w3 : wrap64 (4 * (j : Int)) = 4 * (j : Int) := by unfold wrap64; omega
  have w4 : wrap64 ((B : Int) + 4 * (j : Int)) = (B : Int) + 4 * (j : Int) := by unfold wrap64; omega
  have w5 : wrap64 ((j : Int) + 1) = ((j + 1 : Nat) : Int) := by unfold wrap64; omega
  rw [r07_At.l0, if_pos (by omega), t4, w1, w2, w3, w4, w5]
  clear t4 w1 w2 w3 w4 w5
  by_cases h4 : a % 4 = 0
  ·rw [if_pos (by omega)]
   by_cases he : a = B + 4 * j
   ·rw [if_pos (by omega), if_pos (by omega)]
    have hx := h0 _ (List.getElem_mem hj)
    have hw : Bl.wordv B (natL l) a = some (l[j].toNat) := by
     unfold Bl.wordv
     rw [if_pos ⟨h4, by omega, by omega⟩, show (a - B) / 4 = j by omega]
     simp [natL, List.getElem?_map, List.getElem?_eq_getElem hj]
    rw [hw, rdW l j _ (List.getElem?_eq_getElem hj)]
    simp only [Int.toNat_of_nonneg hx]
   ·rw [if_neg (by omega)]
    exact r07_from B hB e s l hl h0 a ha d (j + 1) (by omega) fun i hi => by
     by_cases hij : i = j
     ·subst hij; exact fun h => he h.2
     ·exact hn i (by omega)
  ·rw [if_neg (by omega)]
   exact r07_from B hB e s l hl h0 a ha d (j + 1) (by omega) fun i hi h => h4 h.1
theorem rAt_all (b e : Int) (l : List Int) (s : Int) (a : Nat) (hb : 0 ≤ b ∧ b < 4294967296) (ha : a < 4294967296) (hl : l.length ≤ 200) (h0 : ∀ x ∈ l, 0 ≤ x ∧ x < 4294967296) :
  r08_At.f 300 b e l s (a : Int) = some ((Iq b.toNat (natL l) a).1.1, (Iq b.toNat (natL l) a).1.2.1, (Iq b.toNat (natL l) a).1.2.2.1, (Iq b.toNat (natL l) a).1.2.2.2.1, (Iq b.toNat (natL l) a).1.2.2.2.2, (Iq b.toNat (natL l) a).2) := by
 have h7 : r07_At.f 300 b e l s (a : Int) = some (match Bl.wordv b.toNat (natL l) a with | none => (0, false) | some v => ((v : Int), true)) := by
  obtain ⟨B, rfl⟩ := Int.eq_ofNat_of_zero_le hb.1
  have h := r07_from B (by omega) e s l (by omega) (fun x hx => (h0 x hx).1) a ha l.length 0 (by omega) (fun i hi => by omega)
  rw [Int.toNat_natCast]
  exact at_rounds (r07_At.mono (B : Int) e l s (a : Int)) (show l.length + 1 ≤ 300 by omega) (by unfold r07_At.f; exact h)
 unfold r08_At.f
 rw [h7, obs]
 unfold Iq Bl.insv
 cases hw : Bl.wordv b.toNat (natL l) a with
 | none => rfl
 | some w =>
  have hwl : w < 4294967296 := by
   unfold Bl.wordv at hw
   split at hw
   ·have := List.mem_of_getElem? hw
    obtain ⟨x, hx, rfl⟩ := List.mem_map.1 this
    have := h0 x hx
    omega
   ·cases hw
  obtain ⟨z, hz, _⟩ := Decode_tot w hwl
  have hd : decq w = ((z.1, z.2.1, z.2.2.1, z.2.2.2.1, z.2.2.2.2.1), z.2.2.2.2.2) := by
   unfold decq dec6
   rw [hz]
   rfl
  dsimp only
  rw [if_pos rfl, rDecode_eq w hwl 300 (by decide), at_rounds (inst_Decode.mono _) (show 200 ≤ 300 by decide) hz, obs, hd]
  dsimp only
  by_cases hz0 : z.2.2.2.2.2 = 0
  ·rw [if_pos hz0, if_neg (by omega)]
  ·rw [if_neg hz0, if_pos hz0]
   rfl
def okR (b e : Int) (l es : List Int) : Prop := okFind b e l es ∧ b < 4294963201 ∧ ∀ x ∈ l, x < 4294967296
instance (b e : Int) (l es : List Int) : Decidable (okR b e l es) := by unfold okR; infer_instance
def r08_Find.f (a0_0 : Int) (a0_1 : Int) (l0_2 : List Int) (a0_3 : Int) (l1 : List Int) : Option (List (S40) × Int) := if okR a0_0 a0_1 l0_2 l1 then some ((findq a0_0 a0_1 l0_2 l1).1.map toB, (findq a0_0 a0_1 l0_2 l1).2) else none
theorem r08_Find.calls (a0_0 : Int) (a0_1 : Int) (A0_2 : Option Addr) (c0_2 : Nat) (l0_2 : List Int) (a0_3 : Int) (A1 : Option Addr) (c1 : Nat) (l1 : List Int) (r1 : List (S40)) (r2 : Int) (w : World) (hr0_2 : Kd.C (Kd.int .u32) w A0_2 l0_2.length l0_2) (hc0_2 : l0_2.length ≤ c0_2) (hr1 : Kd.C (Kd.int .u32) w A1 l1.length l1) (hc1 : l1.length ≤ c1) (h : r08_Find.f a0_0 a0_1 l0_2 a0_3 l1 = some (r1, r2)) :
  Calls Try.prog 18 #[.agg #[.int .u32 a0_0, .int .u32 a0_1, .slice A0_2 l0_2.length c0_2, .int .i64 a0_3], .slice A1 l1.length c1] w fun e w' => ∃ v0_ : Value, e = .returned (.tuple #[v0_, .int .i64 r2]) ∧ Kd.R k40 40 w' w.heap.size (fun _ => True) v0_ r1 ∧ Below w.heap.size w w' := by
 unfold r08_Find.f at h
 split at h
 ·rename_i hs
  have h' := Option.some.inj h
  obtain rfl := congrArg Prod.fst h'
  obtain rfl := congrArg Prod.snd h'
  obtain ⟨⟨hb, he, hl, hes, hw, hee, hfin⟩, hb2, hwl⟩ := hs
  have hE : a0_1 = ((a0_1.toNat : Nat) : Int) := (Int.toNat_of_nonneg he.1).symm
  have hB : a0_0 = ((a0_0.toNat : Nat) : Int) := (Int.toNat_of_nonneg hb.1).symm
  have hat : Bl.rAtC w.heap.size w ((a0_0.toNat : Nat) : Int) ((a0_1.toNat : Nat) : Int) A0_2 l0_2.length c0_2 a0_3 (Iq a0_0.toNat (natL l0_2)) := by
   intro a w' ha hbl
   rw [← hE, ← hB]
   exact r08_At.calls 300 a0_0 a0_1 A0_2 c0_2 l0_2 a0_3 (a : Int) _ _ _ _ _ _ w' (Kd.C_below hr0_2 hbl) hc0_2 (rAt_all a0_0 a0_1 l0_2 a0_3 a hb ha hl (fun x hx => ⟨(hw x hx).1, hwl x hx⟩))
  have hesn : ∀ a ∈ natL l1, a < 4294967296 := by intro a ha; obtain ⟨x, hx, rfl⟩ := List.mem_map.1 ha; have := hee x hx; omega
  have hd := Bl.FDone.make (nd := endq) hfin (fun x a => (aftq_facts x a).2) (by omega) hesn
  have hc := Bl.rFind_calls a0_0.toNat a0_1.toNat A0_2 l0_2.length c0_2 a0_3 (Iq a0_0.toNat (natL l0_2)) aftq endq (natL l1) _ w A1 l1.length c1 rAftC
   (fun op rd u v m w => r08_Ends.calls 200 op rd u v m _ w (rEnds_all op rd u v m)) hat aftq_facts (RdU_of hr1 (fun x hx => (hee x hx).1)) (by simp [natL]) (by omega) (by omega) hesn (by omega) (by omega) hc0_2
   (fun a ha => by obtain ⟨k, hk, e⟩ := Bl.insv_valid decq a0_0.toNat (natL l0_2) a ha; exact ⟨k, by simpa [natL] using hk, e⟩) hd _ rfl
  rw [← hE, ← hB] at hc
  refine hc.mono ?_
  rintro e w' ⟨v, rfl, hO, hbl⟩
  exact ⟨v, rfl, R_of_B hO, hbl⟩
 ·cases h
theorem R_of_N {w : World} {base : Nat} {v : Value} {l : List Nat} (h : Bl.OwnN w base v l) : Kd.R (Kd.int .i64) 3 w base (fun _ => True) v (castL l) := by
 refine ⟨fun _ _ => trivial, l.map (fun x : Nat => .int .i64 (x : Int)), ?_, ?_, fun j p hj => ?_⟩
 ·show w.ownsRow base _ 1 v (castL l).length _
  rw [castL, List.length_map]; exact h
 ·show (l.map (fun x : Nat => Value.int .i64 (x : Int))).length = (castL l).length * 1
  simp [castL]
 ·rw [castL, List.getElem?_map] at hj
  obtain ⟨x, hx, rfl⟩ := Option.map_eq_some_iff.1 hj
  show ((l.map (fun x : Nat => Value.int .i64 (x : Int))).drop (j * 1)).take 1 = [Value.int .i64 (x : Int)]
  have hlt : j < l.length := (List.getElem?_eq_some_iff.1 hx).1
  have hx' : l[j] = x := by rw [List.getElem?_eq_getElem hlt] at hx; exact Option.some.inj hx
  rw [Nat.mul_one, List.drop_eq_getElem_cons (by simpa using hlt), List.take_succ_cons, List.take_zero]
  simp [hx']
def toN (y : S40) : Nat × Nat := (y.f0.toNat, y.f1.toNat)
theorem RdBk_of {w : World} {A : Option Addr} {l : List (S40)} (h : Kd.C k40 w A l.length l) (h0 : ∀ y ∈ l, 0 ≤ y.f0 ∧ 0 ≤ y.f1) : Bl.RdBk w A (l.map toN) := by
 intro i x hx
 rw [List.getElem?_map] at hx
 obtain ⟨y, hy, rfl⟩ := Option.map_eq_some_iff.1 hx
 obtain ⟨hl, he⟩ := List.getElem?_eq_some_iff.1 hy
 obtain ⟨ad, e, h1, h2⟩ := at_T40 h (i : Int) (by omega) (by omega)
 have hrd : rd_T40 l (i : Int) = y := by
  show l.getD (Int.toNat (i : Int)) _ = y
  rw [Int.toNat_natCast, List.getD_eq_getElem?_getD, hy]
  rfl
 rw [hrd, Int.toNat_natCast] at h1 h2
 have hp := h0 y (List.mem_of_getElem? hy)
 refine ⟨ad, e, ?_, ?_⟩
 ·rw [h1]; simp [toN, Int.toNat_of_nonneg hp.1]
 ·rw [h2]; simp [toN, Int.toNat_of_nonneg hp.2]
def okN (b : Int) (l : List Int) (L : List (S40)) : Prop := (0 ≤ b ∧ b < 4294967296) ∧ l.length ≤ 200 ∧ (∀ x ∈ l, 0 ≤ x ∧ x < 4294967296) ∧ L.length ≤ 1000 ∧ ∀ y ∈ L, (0 ≤ y.f0 ∧ y.f0 < 4294967296) ∧ 1 ≤ y.f1 ∧ y.f1 ≤ 1000
instance (b : Int) (l : List Int) (L : List (S40)) : Decidable (okN b l L) := by unfold okN; infer_instance
def rnextq (b : Int) (l : List Int) (L : List (S40)) (k : Int) : List Nat × Bool := Bl.nxtv (Iq b.toNat (natL l)) aftq (L.map toN) k
def r08_Next.f (a0_0 : Int) (a0_1 : Int) (l0_2 : List Int) (a0_3 : Int) (l1 : List (S40)) (a2 : Int) : Option (List Int × Bool) := if okN a0_0 l0_2 l1 then some (castL (rnextq a0_0 l0_2 l1 a2).1, (rnextq a0_0 l0_2 l1 a2).2) else none
theorem r08_Next.calls (a0_0 : Int) (a0_1 : Int) (A0_2 : Option Addr) (c0_2 : Nat) (l0_2 : List Int) (a0_3 : Int) (A1 : Option Addr) (c1 : Nat) (l1 : List (S40)) (a2 : Int) (r1 : List Int) (r2 : Bool) (w : World) (hr0_2 : Kd.C (Kd.int .u32) w A0_2 l0_2.length l0_2) (hc0_2 : l0_2.length ≤ c0_2) (hr1 : Kd.C k40 w A1 l1.length l1) (hc1 : l1.length ≤ c1) (h : r08_Next.f a0_0 a0_1 l0_2 a0_3 l1 a2 = some (r1, r2)) :
  Calls Try.prog 22 #[.agg #[.int .u32 a0_0, .int .u32 a0_1, .slice A0_2 l0_2.length c0_2, .int .i64 a0_3], .slice A1 l1.length c1, .int .i64 a2] w fun e w' => ∃ v0_ : Value, e = .returned (.tuple #[v0_, .bool r2]) ∧ Kd.R (Kd.int .i64) 3 w' w.heap.size (fun _ => True) v0_ r1 ∧ Below w.heap.size w w' := by
 unfold r08_Next.f at h
 split at h
 ·rename_i hs
  have h' := Option.some.inj h
  obtain rfl := congrArg Prod.fst h'
  obtain rfl := congrArg Prod.snd h'
  obtain ⟨hb, hl, hw, hLl, hL⟩ := hs
  have hB : a0_0 = ((a0_0.toNat : Nat) : Int) := (Int.toNat_of_nonneg hb.1).symm
  have hat : Bl.rAtC w.heap.size w ((a0_0.toNat : Nat) : Int) a0_1 A0_2 l0_2.length c0_2 a0_3 (Iq a0_0.toNat (natL l0_2)) := by
   intro a w' ha hbl
   rw [← hB]
   exact r08_At.calls 300 a0_0 a0_1 A0_2 c0_2 l0_2 a0_3 (a : Int) _ _ _ _ _ _ w' (Kd.C_below hr0_2 hbl) hc0_2 (rAt_all a0_0 a0_1 l0_2 a0_3 a hb ha hl hw)
  have hc := Bl.rNext_calls a0_0.toNat a0_1 A0_2 l0_2.length c0_2 a0_3 (Iq a0_0.toNat (natL l0_2)) aftq (l1.map toN) w A1 l1.length c1 a2 rAftC hat (fun x a => (aftq_facts x a).1) (RdBk_of hr1 (fun y hy => ⟨(hL y hy).1.1, by have := (hL y hy).2; omega⟩)) (by simp) hLl
   (fun x hx => by obtain ⟨y, hy, rfl⟩ := List.mem_map.1 hx; have := hL y hy; simp only [toN]; omega)
  rw [← hB] at hc
  refine hc.mono ?_
  rintro e w' ⟨v, rfl, hO, hbl⟩
  exact ⟨v, rfl, R_of_N hO, hbl⟩
 ·cases h
end Go.Proofs.Ytekenddkoahjgaa.Q
