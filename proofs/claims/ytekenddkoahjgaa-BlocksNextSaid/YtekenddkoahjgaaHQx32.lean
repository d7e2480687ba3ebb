import Derived.Test.YtekenddkoahjgaaHZc
import Derived.Test.YtekenddkoahjgaaHQx5
import Derived.Test.YtekenddkoahjgaaHQx10
import Derived.Test.YtekenddkoahjgaaHQx9
section
namespace Go.Proofs.Ytekenddkoahjgaa.Q
open Go.RowKit Go.Proofs.YtekenddkoahjgaaW.PrintWords Go.Proofs.YtekenddkoahjgaaW.PrintLast Go.Proofs.YtekenddkoahjgaaW.PrintMore
attribute [local go_sem] max2_int min2_int max_two min_two max_three min_three max_four min_four
attribute [local go_sem] imax_u32 imax_u8 isg_u32 isg_u8
set_option linter.unusedVariables false
set_option linter.unusedSimpArgs false
def image_At.f (a0_0 : Int) (a0_1 : Int) (l0_2 : List Int) (a0_3 : Int) (a1 : Int) : Option (Int × Bool) := if (Int.tmod a1 4) = 0 then (if (wrap64 ((wrap64 (a1)) - (wrap64 (a0_0)))) < 0 then (some (0, false)) else (if (Int.tmod (wrap64 ((wrap64 (a1)) - (wrap64 (a0_0)))) 4) = 0 then (if (wrap64 (Int.tdiv (wrap64 ((wrap64 (a1)) - (wrap64 (a0_0)))) 4)) ≥ (l0_2.length : Int) then (some (0, false)) else (if 0 ≤ (wrap64 (Int.tdiv (wrap64 ((wrap64 (a1)) - (wrap64 (a0_0)))) 4)) then (if (wrap64 (Int.tdiv (wrap64 ((wrap64 (a1)) - (wrap64 (a0_0)))) 4)) < (l0_2.length : Int) then (some (rd l0_2 (wrap64 (Int.tdiv (wrap64 ((wrap64 (a1)) - (wrap64 (a0_0)))) 4)), true)) else (none)) else (none))) else (some (0, false)))) else (some (0, false))
set_option maxHeartbeats 8000000 in
set_option maxRecDepth 100000 in
theorem image_At.calls (a0_0 : Int) (a0_1 : Int) (A0_2 : Option Addr) (c0_2 : Nat) (l0_2 : List Int) (a0_3 : Int) (a1 : Int) (r1 : Int) (r2 : Bool) (w : World) (hr0_2 : Kd.C (Kd.int .u32) w A0_2 l0_2.length l0_2) (hc0_2 : l0_2.length ≤ c0_2) (h : image_At.f a0_0 a0_1 l0_2 a0_3 a1 = some (r1, r2)) :
  Calls Try.prog 59 #[.agg #[.int .u32 a0_0, .int .u32 a0_1, .slice A0_2 l0_2.length c0_2, .int .i64 a0_3], .int .u32 a1] w fun e w' => e = .returned (.tuple #[.int .u32 r1, .bool r2]) ∧ Below w.heap.size w w' := by
 have hu32 := Try.underlying32
 have HR0_2 := zz hr0_2
 have HC0_2 := zz hc0_2
 clear hr0_2 hc0_2
 have HB := zz (Below.refl w.heap.size w)
 have H : (if (Int.tmod a1 4) = 0 then (if (wrap64 ((wrap64 (a1)) - (wrap64 (a0_0)))) < 0 then (some (0, false)) else (if (Int.tmod (wrap64 ((wrap64 (a1)) - (wrap64 (a0_0)))) 4) = 0 then (if (wrap64 (Int.tdiv (wrap64 ((wrap64 (a1)) - (wrap64 (a0_0)))) 4)) ≥ (l0_2.length : Int) then (some (0, false)) else (if 0 ≤ (wrap64 (Int.tdiv (wrap64 ((wrap64 (a1)) - (wrap64 (a0_0)))) 4)) then (if (wrap64 (Int.tdiv (wrap64 ((wrap64 (a1)) - (wrap64 (a0_0)))) 4)) < (l0_2.length : Int) then (some (rd l0_2 (wrap64 (Int.tdiv (wrap64 ((wrap64 (a1)) - (wrap64 (a0_0)))) 4)), true)) else (none)) else (none))) else (some (0, false)))) else (some (0, false))) = some (r1, r2) := h
 clear h
 by_cases c3 : (Int.tmod a1 4) = 0
 ·rw [if_pos c3] at H
  have c3b0 : ((Int.tmod a1 4) == 0) = true := beq_iff_eq.mpr c3
  have c3b1 : ((Int.tmod a1 4) != 0) = false := bne_eq_false_iff_eq.mpr c3
  clear c3
  by_cases c4 : (wrap64 ((wrap64 (a1)) - (wrap64 (a0_0)))) < 0
  ·rw [if_pos c4] at H
   have c4b0 : decide ((wrap64 ((wrap64 (a1)) - (wrap64 (a0_0)))) < 0) = true := decide_eq_true c4
   clear c4
   simp only [Option.some.injEq, Prod.mk.injEq] at H
   obtain ⟨rfl, rfl⟩ := H
   go_enter Try.func59, Try.ntmps59
   go_wp2_with (first | ((with_reducible refine gate_dst (N := 2) rfl ?_); (try (refine gate_guard (by rfl) ?_; dsimp only)); refine box_event ?hg (N := 2) ?hd (cs := #[.int .u32 a0_0, .int .u32 a0_1, .slice A0_2 l0_2.length c0_2, .int .i64 a0_3]) (t := 32) ?hr ?_; (case hd => rfl); (case hg => rfl); (case hr => first | (go_simp; done) | (go_simp; rfl)); intro gb354 hg w5 hbox hb; have n0_ := zz (below_step zzb hb); have n1_ := zz (hbox); have n2_ := zz ((zzn hg : w.heap.size ≤ gb354)); have n3_ := zz ((zzn hg : w.heap.size ≤ gb354)); clear HB; have HB := n0_; have BK354 := n1_; have GW354 := n2_; have GE354 := n3_; clear n0_ n1_ n2_ n3_; clear hb hbox hg; obtain ⟨hcz6_0, hcz6_1, hcz6_2, hcz6_3⟩ := zzc4 BK354.out (.int .u32 a0_0) (.int .u32 a0_1) (.slice A0_2 l0_2.length c0_2) (.int .i64 a0_3); obtain ⟨hfz6_0, hfz6_1, hfz6_2, hfz6_3⟩ := zzf4 BK354.out))
   go_ret2
   exact ⟨zze, zzg⟩
  ·rw [if_neg c4] at H
   have c4b0 : decide ((wrap64 ((wrap64 (a1)) - (wrap64 (a0_0)))) < 0) = false := decide_eq_false c4
   clear c4
   by_cases c7 : (Int.tmod (wrap64 ((wrap64 (a1)) - (wrap64 (a0_0)))) 4) = 0
   ·rw [if_pos c7] at H
    have c7b0 : ((Int.tmod (wrap64 ((wrap64 (a1)) - (wrap64 (a0_0)))) 4) == 0) = true := beq_iff_eq.mpr c7
    have c7b1 : ((Int.tmod (wrap64 ((wrap64 (a1)) - (wrap64 (a0_0)))) 4) != 0) = false := bne_eq_false_iff_eq.mpr c7
    clear c7
    by_cases c8 : (wrap64 (Int.tdiv (wrap64 ((wrap64 (a1)) - (wrap64 (a0_0)))) 4)) ≥ (l0_2.length : Int)
    ·rw [if_pos c8] at H
     have c8b0 : decide ((l0_2.length : Int) ≤ (wrap64 (Int.tdiv (wrap64 ((wrap64 (a1)) - (wrap64 (a0_0)))) 4))) = true := decide_eq_true c8
     clear c8
     simp only [Option.some.injEq, Prod.mk.injEq] at H
     obtain ⟨rfl, rfl⟩ := H
     go_enter Try.func59, Try.ntmps59
     go_wp2_with (first | ((with_reducible refine gate_dst (N := 2) rfl ?_); (try (refine gate_guard (by rfl) ?_; dsimp only)); refine box_event ?hg (N := 2) ?hd (cs := #[.int .u32 a0_0, .int .u32 a0_1, .slice A0_2 l0_2.length c0_2, .int .i64 a0_3]) (t := 32) ?hr ?_; (case hd => rfl); (case hg => rfl); (case hr => first | (go_simp; done) | (go_simp; rfl)); intro gb354 hg w9 hbox hb; have n0_ := zz (below_step zzb hb); have n1_ := zz (hbox); have n2_ := zz ((zzn hg : w.heap.size ≤ gb354)); have n3_ := zz ((zzn hg : w.heap.size ≤ gb354)); clear HB; have HB := n0_; have BK354 := n1_; have GW354 := n2_; have GE354 := n3_; clear n0_ n1_ n2_ n3_; clear hb hbox hg; obtain ⟨hcz10_0, hcz10_1, hcz10_2, hcz10_3⟩ := zzc4 BK354.out (.int .u32 a0_0) (.int .u32 a0_1) (.slice A0_2 l0_2.length c0_2) (.int .i64 a0_3); obtain ⟨hfz10_0, hfz10_1, hfz10_2, hfz10_3⟩ := zzf4 BK354.out))
     go_ret2
     exact ⟨zze, zzg⟩
    ·rw [if_neg c8] at H
     have c8b0 : decide ((l0_2.length : Int) ≤ (wrap64 (Int.tdiv (wrap64 ((wrap64 (a1)) - (wrap64 (a0_0)))) 4))) = false := decide_eq_false c8
     clear c8
     obtain ⟨ji11, hji11⟩ : ∃ j_ : Int, (wrap64 (Int.tdiv (wrap64 ((wrap64 (a1)) - (wrap64 (a0_0)))) 4)) = j_ := ⟨_, rfl⟩
     replace H : (if 0 ≤ (ji11) then (if (ji11) < (l0_2.length : Int) then (some (rd l0_2 (ji11), true)) else (none)) else (none)) = some (r1, r2) := by first | (rw [hji11] at H; exact H) | (simp only [hji11] at H ⊢; exact H)
     (try rw [hji11] at c8b0)
     have hji11w : (IntKind.i64.wrap (Int.tdiv (wrap64 ((wrap64 (a1)) - (wrap64 (a0_0)))) 4)) = ji11 := (i64_w _).trans hji11
     by_cases c12 : 0 ≤ (ji11)
     ·rw [if_pos c12] at H
      have c12b0 : decide (0 ≤ (ji11)) = true := decide_eq_true c12
      clear c12
      by_cases c13 : (ji11) < (l0_2.length : Int)
      ·rw [if_pos c13] at H
       have c13b0 : decide ((ji11) < (l0_2.length : Int)) = true := decide_eq_true c13
       clear c13
       simp only [Option.some.injEq, Prod.mk.injEq] at H
       obtain ⟨rfl, rfl⟩ := H
       go_enter Try.func59, Try.ntmps59
       go_wp2_with (first | ((with_reducible refine gate_dst (N := 2) rfl ?_); (try (refine gate_guard (by rfl) ?_; dsimp only)); refine box_event ?hg (N := 2) ?hd (cs := #[.int .u32 a0_0, .int .u32 a0_1, .slice A0_2 l0_2.length c0_2, .int .i64 a0_3]) (t := 32) ?hr ?_; (case hd => rfl); (case hg => rfl); (case hr => first | (go_simp; done) | (go_simp; rfl)); intro gb354 hg w14 hbox hb; have n0_ := zz (below_step zzb hb); have n1_ := zz (hbox); have n2_ := zz ((zzn hg : w.heap.size ≤ gb354)); have n3_ := zz ((zzn hg : w.heap.size ≤ gb354)); clear HB; have HB := n0_; have BK354 := n1_; have GW354 := n2_; have GE354 := n3_; clear n0_ n1_ n2_ n3_; clear hb hbox hg; obtain ⟨hcz15_0, hcz15_1, hcz15_2, hcz15_3⟩ := zzc4 BK354.out (.int .u32 a0_0) (.int .u32 a0_1) (.slice A0_2 l0_2.length c0_2) (.int .i64 a0_3); obtain ⟨hfz15_0, hfz15_1, hfz15_2, hfz15_3⟩ := zzf4 BK354.out; have p355 : 0 ≤ ((ji11) : Int) := of_decide_eq_true zzm; have q355 : (ji11) < (l0_2.length : Int) := of_decide_eq_true zzm; obtain ⟨ad355, e355, hx355_0⟩ := Kd.at_int HR0_2.out (ji11) p355 q355; cases e355; replace hx355_0 := (HB.out.cell (World.block_lt_of_cell? w _ hx355_0)).trans hx355_0; replace p355 := eq_true p355; replace q355 := eq_true q355))
       go_ret2
       exact ⟨by first | rfl | (simp [errW_none, errW_some] <;> rfl) | (simp only [← hji11]; first | rfl | (simp [errW_none, errW_some] <;> rfl)) | (simp [*, errW_none, errW_some] <;> rfl), zzg⟩
      ·rw [if_neg c13] at H
       exact absurd H (by simp)
     ·rw [if_neg c12] at H
      exact absurd H (by simp)
   ·rw [if_neg c7] at H
    have c7b0 : ((Int.tmod (wrap64 ((wrap64 (a1)) - (wrap64 (a0_0)))) 4) == 0) = false := beq_eq_false_iff_ne.mpr c7
    have c7b1 : ((Int.tmod (wrap64 ((wrap64 (a1)) - (wrap64 (a0_0)))) 4) != 0) = true := bne_iff_ne.mpr c7
    simp only [Option.some.injEq, Prod.mk.injEq] at H
    obtain ⟨rfl, rfl⟩ := H
    go_enter Try.func59, Try.ntmps59
    go_wp2_with (first | ((with_reducible refine gate_dst (N := 2) rfl ?_); (try (refine gate_guard (by rfl) ?_; dsimp only)); refine box_event ?hg (N := 2) ?hd (cs := #[.int .u32 a0_0, .int .u32 a0_1, .slice A0_2 l0_2.length c0_2, .int .i64 a0_3]) (t := 32) ?hr ?_; (case hd => rfl); (case hg => rfl); (case hr => first | (go_simp; done) | (go_simp; rfl)); intro gb354 hg w16 hbox hb; have n0_ := zz (below_step zzb hb); have n1_ := zz (hbox); have n2_ := zz ((zzn hg : w.heap.size ≤ gb354)); have n3_ := zz ((zzn hg : w.heap.size ≤ gb354)); clear HB; have HB := n0_; have BK354 := n1_; have GW354 := n2_; have GE354 := n3_; clear n0_ n1_ n2_ n3_; clear hb hbox hg; obtain ⟨hcz17_0, hcz17_1, hcz17_2, hcz17_3⟩ := zzc4 BK354.out (.int .u32 a0_0) (.int .u32 a0_1) (.slice A0_2 l0_2.length c0_2) (.int .i64 a0_3); obtain ⟨hfz17_0, hfz17_1, hfz17_2, hfz17_3⟩ := zzf4 BK354.out))
    go_ret2
    exact ⟨zze, zzg⟩
 ·rw [if_neg c3] at H
  have c3b0 : ((Int.tmod a1 4) == 0) = false := beq_eq_false_iff_ne.mpr c3
  have c3b1 : ((Int.tmod a1 4) != 0) = true := bne_iff_ne.mpr c3
  simp only [Option.some.injEq, Prod.mk.injEq] at H
  obtain ⟨rfl, rfl⟩ := H
  go_enter Try.func59, Try.ntmps59
  go_wp2_with (first | ((with_reducible refine gate_dst (N := 2) rfl ?_); (try (refine gate_guard (by rfl) ?_; dsimp only)); refine box_event ?hg (N := 2) ?hd (cs := #[.int .u32 a0_0, .int .u32 a0_1, .slice A0_2 l0_2.length c0_2, .int .i64 a0_3]) (t := 32) ?hr ?_; (case hd => rfl); (case hg => rfl); (case hr => first | (go_simp; done) | (go_simp; rfl)); intro gb354 hg w18 hbox hb; have n0_ := zz (below_step zzb hb); have n1_ := zz (hbox); have n2_ := zz ((zzn hg : w.heap.size ≤ gb354)); have n3_ := zz ((zzn hg : w.heap.size ≤ gb354)); clear HB; have HB := n0_; have BK354 := n1_; have GW354 := n2_; have GE354 := n3_; clear n0_ n1_ n2_ n3_; clear hb hbox hg; obtain ⟨hcz19_0, hcz19_1, hcz19_2, hcz19_3⟩ := zzc4 BK354.out (.int .u32 a0_0) (.int .u32 a0_1) (.slice A0_2 l0_2.length c0_2) (.int .i64 a0_3); obtain ⟨hfz19_0, hfz19_1, hfz19_2, hfz19_3⟩ := zzf4 BK354.out))
  go_ret2
  exact ⟨zze, zzg⟩
def blocks_at.f (k : Nat) (a0_0 : Int) (a0_1 : Int) (l0_2 : List Int) (a0_3 : Int) (a1 : Int) : Option (Int × Int × Int × Int × Int × Int) := (image_At.f a0_0 a0_1 l0_2 a0_3 a1).bind fun bt358 => (if bt358.2 = true then ((inst_Decode.f k bt358.1).bind fun bt360 => (if bt360.2.2.2.2.2 = 0 then (some (bt360.1, bt360.2.1, bt360.2.2.1, bt360.2.2.2.1, bt360.2.2.2.2.1, 0)) else (some (0, 0, 0, 0, 0, 80)))) else (some (0, 0, 0, 0, 0, 81)))
theorem blocks_at.mono : ∀ a0 a1 a2 a3 a4 k, LeO (blocks_at.f k a0 a1 a2 a3 a4) (blocks_at.f (k + 1) a0 a1 a2 a3 a4) := by
 intro a0 a1 a2 a3 a4 k
 unfold blocks_at.f
 repeat' first
   | (with_reducible exact inst_Decode.mono _ _)
   | (with_reducible exact LeO.refl _)
   | (with_reducible exact LeO.none _)
   | (with_reducible refine LeO.ite ?_ ?_)
   | (with_reducible refine LeO.bind ?_ (fun _ => ?_))
   | exact inst_Decode.mono _ _
   | exact LeO.none _
   | refine LeO.ite ?_ ?_
   | refine LeO.bind ?_ (fun _ => ?_)
set_option maxHeartbeats 8000000 in
set_option maxRecDepth 100000 in
theorem blocks_at.calls (k : Nat) (a0_0 : Int) (a0_1 : Int) (A0_2 : Option Addr) (c0_2 : Nat) (l0_2 : List Int) (a0_3 : Int) (a1 : Int) (r1 : Int) (r2 : Int) (r3 : Int) (r4 : Int) (r5 : Int) (r6 : Int) (w : World) (hr0_2 : Kd.C (Kd.int .u32) w A0_2 l0_2.length l0_2) (hc0_2 : l0_2.length ≤ c0_2) (h : blocks_at.f k a0_0 a0_1 l0_2 a0_3 a1 = some (r1, r2, r3, r4, r5, r6)) :
  Calls Try.prog 42 #[.agg #[.int .u32 a0_0, .int .u32 a0_1, .slice A0_2 l0_2.length c0_2, .int .i64 a0_3], .int .u32 a1] w fun e w' => e = .returned (.tuple #[.agg #[.int .i64 r1, .int .i64 r2, .int .i64 r3, .int .i64 r4, .int .i64 r5], .int .i64 r6]) ∧ Below w.heap.size w w' := by
 have hu32 := Try.underlying32
 have hu23 := Try.underlying23
 have HR0_2 := zz hr0_2
 have HC0_2 := zz hc0_2
 clear hr0_2 hc0_2
 have HB := zz (Below.refl w.heap.size w)
 have H : ((image_At.f a0_0 a0_1 l0_2 a0_3 a1).bind fun bt358 => (if bt358.2 = true then ((inst_Decode.f k bt358.1).bind fun bt360 => (if bt360.2.2.2.2.2 = 0 then (some (bt360.1, bt360.2.1, bt360.2.2.1, bt360.2.2.2.1, bt360.2.2.2.2.1, 0)) else (some (0, 0, 0, 0, 0, 80)))) else (some (0, 0, 0, 0, 0, 81)))) = some (r1, r2, r3, r4, r5, r6) := h
 clear h
 replace H := Option.bind_eq_some_iff.mp H
 obtain ⟨⟨t358, t359⟩, A30, H⟩ := H
 replace H : (if t359 = true then ((inst_Decode.f k t358).bind fun bt360 => (if bt360.2.2.2.2.2 = 0 then (some (bt360.1, bt360.2.1, bt360.2.2.1, bt360.2.2.2.1, bt360.2.2.2.2.1, 0)) else (some (0, 0, 0, 0, 0, 80)))) else (some (0, 0, 0, 0, 0, 81))) = some (r1, r2, r3, r4, r5, r6) := H
 have A3 := zz A30
 clear A30
 by_cases c4 : t359 = true
 ·subst c4
  have H1 : ((inst_Decode.f k t358).bind fun bt360 => (if bt360.2.2.2.2.2 = 0 then (some (bt360.1, bt360.2.1, bt360.2.2.1, bt360.2.2.2.1, bt360.2.2.2.2.1, 0)) else (some (0, 0, 0, 0, 0, 80)))) = some (r1, r2, r3, r4, r5, r6) := by rw [if_pos rfl] at H; exact H
  clear H
  have H := H1
  clear H1
  replace H := Option.bind_eq_some_iff.mp H
  obtain ⟨⟨t360, t361, t362, t363, t364, t365⟩, A50, H⟩ := H
  replace H : (if t365 = 0 then (some (t360, t361, t362, t363, t364, 0)) else (some (0, 0, 0, 0, 0, 80))) = some (r1, r2, r3, r4, r5, r6) := H
  have A5 := zz A50
  clear A50
  by_cases c6 : t365 = 0
  ·rw [if_pos c6] at H
   have c6b0 : (t365 == 0) = true := beq_iff_eq.mpr c6
   have c6b1 : (t365 != 0) = false := bne_eq_false_iff_eq.mpr c6
   clear c6
   simp only [Option.some.injEq, Prod.mk.injEq] at H
   obtain ⟨rfl, rfl, rfl, rfl, rfl, rfl⟩ := H
   go_enter Try.func42, Try.ntmps42
   go_wp2_with (first | ((with_reducible refine gate_dst (N := 2) rfl ?_); refine box_event ?hg (N := 2) ?hd (cs := #[.int .u32 a0_0, .int .u32 a0_1, .slice A0_2 l0_2.length c0_2, .int .i64 a0_3]) (t := 32) ?hr ?_; (case hd => rfl); (case hg => rfl); (case hr => first | (go_simp; done) | (go_simp; rfl)); intro gb356 hg w7 hbox hb; have n0_ := zz (below_step zzb hb); have n1_ := zz (hbox); have n2_ := zz ((zzn hg : w.heap.size ≤ gb356)); have n3_ := zz ((zzn hg : w.heap.size ≤ gb356)); clear HB; have HB := n0_; have BK356 := n1_; have GW356 := n2_; have GE356 := n3_; clear n0_ n1_ n2_ n3_; clear hb hbox hg) | ((with_reducible refine gate_dst (N := 4) rfl ?_); refine box_event ?hg (N := 4) ?hd (cs := #[.int .i64 0, .int .i64 0, .int .i64 0, .int .i64 0, .int .i64 0]) (t := 23) ?hr ?_; (case hd => rfl); (case hg => rfl); (case hr => first | (go_simp; done) | (go_simp; rfl)); intro gb357 hg w8 hbox hb; have n0_ := zz (zzkb BK356.out hb); have n1_ := zz (below_step zzg hb); have n2_ := zz (hbox); have n3_ := zz ((zzn hg : w.heap.size ≤ gb357)); have n4_ := zz ((zzn hg : w.heap.size ≤ gb357)); have n5_ := zz ((zzx hg BK356.out : gb356 ≠ gb357)); have n6_ := zz ((zzy hg BK356.out : gb357 ≠ gb356)); clear BK356; clear HB; have BK356 := n0_; have HB := n1_; have BK357 := n2_; have GW357 := n3_; have GE357 := n4_; have NB356_357 := n5_; have NB357_356 := n6_; clear n0_ n1_ n2_ n3_ n4_ n5_ n6_; clear hb hbox hg; have hnb9 := NB356_357.out; have hnc9 := NB357_356.out; obtain ⟨hcz10_0, hcz10_1, hcz10_2, hcz10_3⟩ := zzc4 BK356.out (.int .u32 a0_0) (.int .u32 a0_1) (.slice A0_2 l0_2.length c0_2) (.int .i64 a0_3); obtain ⟨hfz10_0, hfz10_1, hfz10_2, hfz10_3⟩ := zzf4 BK356.out) | ((with_reducible refine gate_callee (f := 59) rfl ?_); refine goesL_ (some 13) rfl rfl Try.func59 (by kernel_rfl) rfl #[.agg #[.int .u32 a0_0, .int .u32 a0_1, .slice A0_2 l0_2.length c0_2, .int .i64 a0_3], .int .u32 a1] rfl zza ?_; (with_reducible refine (image_At.calls a0_0 a0_1 _ _ l0_2 a0_3 a1 t358 true _ ?side1 ?side2 A3.out).mono ?_); (case side1 => repeat (first | exact (Kd.C_below HR0_2.out HB.out) | (with_reducible refine Kd.C_alloc ?_ _) | (with_reducible refine Kd.C_drewN ?_ _) | (with_reducible refine Kd.C_drew ?_))); (case side2 => exact HC0_2.out); rintro e w11 ⟨rfl, hb⟩; refine ⟨_, rfl, ?_⟩; have n0_ := zz (zzkb BK356.out hb); have n1_ := zz (zzkb BK357.out hb); have n2_ := zz (below_step zzg hb); clear BK356; clear BK357; clear HB; have BK356 := n0_; have BK357 := n1_; have HB := n2_; clear n0_ n1_ n2_; (try clear hb); (try clear hb2); (try clear hk); (try clear hi)) | ((with_reducible refine gate_callee (f := 60) rfl ?_); refine goesL_ (some 21) rfl rfl Try.func60 (by kernel_rfl) rfl #[.int .u32 t358] rfl zza ?_; (with_reducible refine (inst_Decode.calls k t358 t360 t361 t362 t363 t364 t365 _ A5.out).mono ?_); rintro e w12 ⟨rfl, hb⟩; refine ⟨_, rfl, ?_⟩; have n0_ := zz (zzkb BK356.out hb); have n1_ := zz (zzkb BK357.out hb); have n2_ := zz (below_step zzg hb); clear BK356; clear BK357; clear HB; have BK356 := n0_; have BK357 := n1_; have HB := n2_; clear n0_ n1_ n2_; (try clear hb); (try clear hb2); (try clear hk); (try clear hi)) | ((with_reducible refine gate_dst (N := 8) rfl ?_); refine box_event ?hg (N := 8) ?hd (cs := #[.int .i64 0, .int .i64 0, .int .i64 0, .int .i64 0, .int .i64 0]) (t := 23) ?hr ?_; (case hd => rfl); (case hg => rfl); (case hr => first | (go_simp; done) | (go_simp; rfl)); intro gb366 hg w13 hbox hb; have n0_ := zz (zzkb BK356.out hb); have n1_ := zz (zzkb BK357.out hb); have n2_ := zz (below_step zzg hb); have n3_ := zz (hbox); have n4_ := zz ((zzn hg : w.heap.size ≤ gb366)); have n5_ := zz ((zzn hg : w.heap.size ≤ gb366)); have n6_ := zz ((zzx hg BK356.out : gb356 ≠ gb366)); have n7_ := zz ((zzy hg BK356.out : gb366 ≠ gb356)); have n8_ := zz ((zzx hg BK357.out : gb357 ≠ gb366)); have n9_ := zz ((zzy hg BK357.out : gb366 ≠ gb357)); clear BK356; clear BK357; clear HB; have BK356 := n0_; have BK357 := n1_; have HB := n2_; have BK366 := n3_; have GW366 := n4_; have GE366 := n5_; have NB356_366 := n6_; have NB366_356 := n7_; have NB357_366 := n8_; have NB366_357 := n9_; clear n0_ n1_ n2_ n3_ n4_ n5_ n6_ n7_ n8_ n9_; clear hb hbox hg; have hnb14 := NB366_356.out; have hnc14 := NB356_366.out; have hnb15 := NB366_357.out; have hnc15 := NB357_366.out; obtain ⟨hcz16_0, hcz16_1, hcz16_2, hcz16_3, hcz16_4⟩ := zzc5 BK366.out (.int .i64 0) (.int .i64 0) (.int .i64 0) (.int .i64 0) (.int .i64 0); obtain ⟨hfz16_0, hfz16_1, hfz16_2, hfz16_3, hfz16_4⟩ := zzf5 BK366.out; obtain ⟨hcz17_0, hcz17_1, hcz17_2, hcz17_3, hcz17_4⟩ := zzc5 BK357.out (.int .i64 0) (.int .i64 0) (.int .i64 0) (.int .i64 0) (.int .i64 0); obtain ⟨hfz17_0, hfz17_1, hfz17_2, hfz17_3, hfz17_4⟩ := zzf5 BK357.out))
   refine bodyPost_ret (results_ct rfl _ _ gb357 23 #[.int .i64 t360, .int .i64 t361, .int .i64 t362, .int .i64 t363, .int .i64 t364] (0, 0) _ rfl (by refine zzk ?_; refine blk_put (cs := #[.int .i64 t360, .int .i64 t361, .int .i64 t362, .int .i64 t363, .int .i64 0]) ?_ 4 _ rfl; refine zzk ?_; refine blk_put (cs := #[.int .i64 t360, .int .i64 t361, .int .i64 t362, .int .i64 0, .int .i64 0]) ?_ 3 _ rfl; refine zzk ?_; refine blk_put (cs := #[.int .i64 t360, .int .i64 t361, .int .i64 0, .int .i64 0, .int .i64 0]) ?_ 2 _ rfl; refine zzk ?_; refine blk_put (cs := #[.int .i64 t360, .int .i64 0, .int .i64 0, .int .i64 0, .int .i64 0]) ?_ 1 _ rfl; refine zzk ?_; refine blk_put (cs := #[.int .i64 0, .int .i64 0, .int .i64 0, .int .i64 0, .int .i64 0]) ?_ 0 _ rfl; refine zzk ?_; refine blk_far ?_ NB357_366.out _; refine zzk ?_; refine blk_far ?_ NB357_366.out _; refine zzk ?_; refine blk_far ?_ NB357_366.out _; refine zzk ?_; refine blk_far ?_ NB357_366.out _; refine zzk ?_; refine blk_far ?_ NB357_366.out _; refine zzk ?_; exact BK357.out) Try.underlying23 rfl (by kernel_rfl)) rfl ?_
   exact ⟨zze, zzg⟩
  ·rw [if_neg c6] at H
   have c6b0 : (t365 == 0) = false := beq_eq_false_iff_ne.mpr c6
   have c6b1 : (t365 != 0) = true := bne_iff_ne.mpr c6
   simp only [Option.some.injEq, Prod.mk.injEq] at H
   obtain ⟨rfl, rfl, rfl, rfl, rfl, rfl⟩ := H
   go_enter Try.func42, Try.ntmps42
   go_wp2_with (first | ((with_reducible refine gate_dst (N := 2) rfl ?_); refine box_event ?hg (N := 2) ?hd (cs := #[.int .u32 a0_0, .int .u32 a0_1, .slice A0_2 l0_2.length c0_2, .int .i64 a0_3]) (t := 32) ?hr ?_; (case hd => rfl); (case hg => rfl); (case hr => first | (go_simp; done) | (go_simp; rfl)); intro gb356 hg w18 hbox hb; have n0_ := zz (below_step zzb hb); have n1_ := zz (hbox); have n2_ := zz ((zzn hg : w.heap.size ≤ gb356)); have n3_ := zz ((zzn hg : w.heap.size ≤ gb356)); clear HB; have HB := n0_; have BK356 := n1_; have GW356 := n2_; have GE356 := n3_; clear n0_ n1_ n2_ n3_; clear hb hbox hg) | ((with_reducible refine gate_dst (N := 4) rfl ?_); refine box_event ?hg (N := 4) ?hd (cs := #[.int .i64 0, .int .i64 0, .int .i64 0, .int .i64 0, .int .i64 0]) (t := 23) ?hr ?_; (case hd => rfl); (case hg => rfl); (case hr => first | (go_simp; done) | (go_simp; rfl)); intro gb357 hg w19 hbox hb; have n0_ := zz (zzkb BK356.out hb); have n1_ := zz (below_step zzg hb); have n2_ := zz (hbox); have n3_ := zz ((zzn hg : w.heap.size ≤ gb357)); have n4_ := zz ((zzn hg : w.heap.size ≤ gb357)); have n5_ := zz ((zzx hg BK356.out : gb356 ≠ gb357)); have n6_ := zz ((zzy hg BK356.out : gb357 ≠ gb356)); clear BK356; clear HB; have BK356 := n0_; have HB := n1_; have BK357 := n2_; have GW357 := n3_; have GE357 := n4_; have NB356_357 := n5_; have NB357_356 := n6_; clear n0_ n1_ n2_ n3_ n4_ n5_ n6_; clear hb hbox hg; have hnb20 := NB356_357.out; have hnc20 := NB357_356.out; obtain ⟨hcz21_0, hcz21_1, hcz21_2, hcz21_3⟩ := zzc4 BK356.out (.int .u32 a0_0) (.int .u32 a0_1) (.slice A0_2 l0_2.length c0_2) (.int .i64 a0_3); obtain ⟨hfz21_0, hfz21_1, hfz21_2, hfz21_3⟩ := zzf4 BK356.out) | ((with_reducible refine gate_callee (f := 59) rfl ?_); refine goesL_ (some 13) rfl rfl Try.func59 (by kernel_rfl) rfl #[.agg #[.int .u32 a0_0, .int .u32 a0_1, .slice A0_2 l0_2.length c0_2, .int .i64 a0_3], .int .u32 a1] rfl zza ?_; (with_reducible refine (image_At.calls a0_0 a0_1 _ _ l0_2 a0_3 a1 t358 true _ ?side1 ?side2 A3.out).mono ?_); (case side1 => repeat (first | exact (Kd.C_below HR0_2.out HB.out) | (with_reducible refine Kd.C_alloc ?_ _) | (with_reducible refine Kd.C_drewN ?_ _) | (with_reducible refine Kd.C_drew ?_))); (case side2 => exact HC0_2.out); rintro e w22 ⟨rfl, hb⟩; refine ⟨_, rfl, ?_⟩; have n0_ := zz (zzkb BK356.out hb); have n1_ := zz (zzkb BK357.out hb); have n2_ := zz (below_step zzg hb); clear BK356; clear BK357; clear HB; have BK356 := n0_; have BK357 := n1_; have HB := n2_; clear n0_ n1_ n2_; (try clear hb); (try clear hb2); (try clear hk); (try clear hi)) | ((with_reducible refine gate_callee (f := 60) rfl ?_); refine goesL_ (some 21) rfl rfl Try.func60 (by kernel_rfl) rfl #[.int .u32 t358] rfl zza ?_; (with_reducible refine (inst_Decode.calls k t358 t360 t361 t362 t363 t364 t365 _ A5.out).mono ?_); rintro e w23 ⟨rfl, hb⟩; refine ⟨_, rfl, ?_⟩; have n0_ := zz (zzkb BK356.out hb); have n1_ := zz (zzkb BK357.out hb); have n2_ := zz (below_step zzg hb); clear BK356; clear BK357; clear HB; have BK356 := n0_; have BK357 := n1_; have HB := n2_; clear n0_ n1_ n2_; (try clear hb); (try clear hb2); (try clear hk); (try clear hi)) | ((with_reducible refine gate_dst (N := 8) rfl ?_); refine box_event ?hg (N := 8) ?hd (cs := #[.int .i64 0, .int .i64 0, .int .i64 0, .int .i64 0, .int .i64 0]) (t := 23) ?hr ?_; (case hd => rfl); (case hg => rfl); (case hr => first | (go_simp; done) | (go_simp; rfl)); intro gb366 hg w24 hbox hb; have n0_ := zz (zzkb BK356.out hb); have n1_ := zz (zzkb BK357.out hb); have n2_ := zz (below_step zzg hb); have n3_ := zz (hbox); have n4_ := zz ((zzn hg : w.heap.size ≤ gb366)); have n5_ := zz ((zzn hg : w.heap.size ≤ gb366)); have n6_ := zz ((zzx hg BK356.out : gb356 ≠ gb366)); have n7_ := zz ((zzy hg BK356.out : gb366 ≠ gb356)); have n8_ := zz ((zzx hg BK357.out : gb357 ≠ gb366)); have n9_ := zz ((zzy hg BK357.out : gb366 ≠ gb357)); clear BK356; clear BK357; clear HB; have BK356 := n0_; have BK357 := n1_; have HB := n2_; have BK366 := n3_; have GW366 := n4_; have GE366 := n5_; have NB356_366 := n6_; have NB366_356 := n7_; have NB357_366 := n8_; have NB366_357 := n9_; clear n0_ n1_ n2_ n3_ n4_ n5_ n6_ n7_ n8_ n9_; clear hb hbox hg; have hnb25 := NB366_356.out; have hnc25 := NB356_366.out; have hnb26 := NB366_357.out; have hnc26 := NB357_366.out; obtain ⟨hcz27_0, hcz27_1, hcz27_2, hcz27_3, hcz27_4⟩ := zzc5 BK366.out (.int .i64 0) (.int .i64 0) (.int .i64 0) (.int .i64 0) (.int .i64 0); obtain ⟨hfz27_0, hfz27_1, hfz27_2, hfz27_3, hfz27_4⟩ := zzf5 BK366.out; obtain ⟨hcz28_0, hcz28_1, hcz28_2, hcz28_3, hcz28_4⟩ := zzc5 BK357.out (.int .i64 0) (.int .i64 0) (.int .i64 0) (.int .i64 0) (.int .i64 0); obtain ⟨hfz28_0, hfz28_1, hfz28_2, hfz28_3, hfz28_4⟩ := zzf5 BK357.out))
   refine bodyPost_ret (results_ct rfl _ _ gb357 23 #[.int .i64 0, .int .i64 0, .int .i64 0, .int .i64 0, .int .i64 0] (0, 0) _ rfl (by refine zzk ?_; refine blk_put (cs := #[.int .i64 0, .int .i64 0, .int .i64 0, .int .i64 0, .int .i64 0]) ?_ 4 _ rfl; refine zzk ?_; refine blk_put (cs := #[.int .i64 0, .int .i64 0, .int .i64 0, .int .i64 0, .int .i64 0]) ?_ 3 _ rfl; refine zzk ?_; refine blk_put (cs := #[.int .i64 0, .int .i64 0, .int .i64 0, .int .i64 0, .int .i64 0]) ?_ 2 _ rfl; refine zzk ?_; refine blk_put (cs := #[.int .i64 0, .int .i64 0, .int .i64 0, .int .i64 0, .int .i64 0]) ?_ 1 _ rfl; refine zzk ?_; refine blk_put (cs := #[.int .i64 0, .int .i64 0, .int .i64 0, .int .i64 0, .int .i64 0]) ?_ 0 _ rfl; refine zzk ?_; refine blk_far ?_ NB357_366.out _; refine zzk ?_; refine blk_far ?_ NB357_366.out _; refine zzk ?_; refine blk_far ?_ NB357_366.out _; refine zzk ?_; refine blk_far ?_ NB357_366.out _; refine zzk ?_; refine blk_far ?_ NB357_366.out _; refine zzk ?_; exact BK357.out) Try.underlying23 rfl (by kernel_rfl)) rfl ?_
   exact ⟨zze, zzg⟩
 ·replace c4 := Bool.eq_false_iff.mpr c4
  subst c4
  have H1 : (some (0, 0, 0, 0, 0, 81)) = some (r1, r2, r3, r4, r5, r6) := by rw [if_neg (show ¬ (false = true) by decide)] at H; exact H
  clear H
  have H := H1
  clear H1
  simp only [Option.some.injEq, Prod.mk.injEq] at H
  obtain ⟨rfl, rfl, rfl, rfl, rfl, rfl⟩ := H
  go_enter Try.func42, Try.ntmps42
  go_wp2_with (first | ((with_reducible refine gate_dst (N := 2) rfl ?_); refine box_event ?hg (N := 2) ?hd (cs := #[.int .u32 a0_0, .int .u32 a0_1, .slice A0_2 l0_2.length c0_2, .int .i64 a0_3]) (t := 32) ?hr ?_; (case hd => rfl); (case hg => rfl); (case hr => first | (go_simp; done) | (go_simp; rfl)); intro gb356 hg w29 hbox hb; have n0_ := zz (below_step zzb hb); have n1_ := zz (hbox); have n2_ := zz ((zzn hg : w.heap.size ≤ gb356)); have n3_ := zz ((zzn hg : w.heap.size ≤ gb356)); clear HB; have HB := n0_; have BK356 := n1_; have GW356 := n2_; have GE356 := n3_; clear n0_ n1_ n2_ n3_; clear hb hbox hg) | ((with_reducible refine gate_dst (N := 4) rfl ?_); refine box_event ?hg (N := 4) ?hd (cs := #[.int .i64 0, .int .i64 0, .int .i64 0, .int .i64 0, .int .i64 0]) (t := 23) ?hr ?_; (case hd => rfl); (case hg => rfl); (case hr => first | (go_simp; done) | (go_simp; rfl)); intro gb357 hg w30 hbox hb; have n0_ := zz (zzkb BK356.out hb); have n1_ := zz (below_step zzg hb); have n2_ := zz (hbox); have n3_ := zz ((zzn hg : w.heap.size ≤ gb357)); have n4_ := zz ((zzn hg : w.heap.size ≤ gb357)); have n5_ := zz ((zzx hg BK356.out : gb356 ≠ gb357)); have n6_ := zz ((zzy hg BK356.out : gb357 ≠ gb356)); clear BK356; clear HB; have BK356 := n0_; have HB := n1_; have BK357 := n2_; have GW357 := n3_; have GE357 := n4_; have NB356_357 := n5_; have NB357_356 := n6_; clear n0_ n1_ n2_ n3_ n4_ n5_ n6_; clear hb hbox hg; have hnb31 := NB356_357.out; have hnc31 := NB357_356.out; obtain ⟨hcz32_0, hcz32_1, hcz32_2, hcz32_3⟩ := zzc4 BK356.out (.int .u32 a0_0) (.int .u32 a0_1) (.slice A0_2 l0_2.length c0_2) (.int .i64 a0_3); obtain ⟨hfz32_0, hfz32_1, hfz32_2, hfz32_3⟩ := zzf4 BK356.out) | ((with_reducible refine gate_callee (f := 59) rfl ?_); refine goesL_ (some 13) rfl rfl Try.func59 (by kernel_rfl) rfl #[.agg #[.int .u32 a0_0, .int .u32 a0_1, .slice A0_2 l0_2.length c0_2, .int .i64 a0_3], .int .u32 a1] rfl zza ?_; (with_reducible refine (image_At.calls a0_0 a0_1 _ _ l0_2 a0_3 a1 t358 false _ ?side1 ?side2 A3.out).mono ?_); (case side1 => repeat (first | exact (Kd.C_below HR0_2.out HB.out) | (with_reducible refine Kd.C_alloc ?_ _) | (with_reducible refine Kd.C_drewN ?_ _) | (with_reducible refine Kd.C_drew ?_))); (case side2 => exact HC0_2.out); rintro e w33 ⟨rfl, hb⟩; refine ⟨_, rfl, ?_⟩; have n0_ := zz (zzkb BK356.out hb); have n1_ := zz (zzkb BK357.out hb); have n2_ := zz (below_step zzg hb); clear BK356; clear BK357; clear HB; have BK356 := n0_; have BK357 := n1_; have HB := n2_; clear n0_ n1_ n2_; (try clear hb); (try clear hb2); (try clear hk); (try clear hi); obtain ⟨hcz34_0, hcz34_1, hcz34_2, hcz34_3, hcz34_4⟩ := zzc5 BK357.out (.int .i64 0) (.int .i64 0) (.int .i64 0) (.int .i64 0) (.int .i64 0); obtain ⟨hfz34_0, hfz34_1, hfz34_2, hfz34_3, hfz34_4⟩ := zzf5 BK357.out))
  refine bodyPost_ret (results_ct rfl _ _ gb357 23 #[.int .i64 0, .int .i64 0, .int .i64 0, .int .i64 0, .int .i64 0] (0, 0) _ rfl (by refine zzk ?_; refine blk_put (cs := #[.int .i64 0, .int .i64 0, .int .i64 0, .int .i64 0, .int .i64 0]) ?_ 4 _ rfl; refine zzk ?_; refine blk_put (cs := #[.int .i64 0, .int .i64 0, .int .i64 0, .int .i64 0, .int .i64 0]) ?_ 3 _ rfl; refine zzk ?_; refine blk_put (cs := #[.int .i64 0, .int .i64 0, .int .i64 0, .int .i64 0, .int .i64 0]) ?_ 2 _ rfl; refine zzk ?_; refine blk_put (cs := #[.int .i64 0, .int .i64 0, .int .i64 0, .int .i64 0, .int .i64 0]) ?_ 1 _ rfl; refine zzk ?_; refine blk_put (cs := #[.int .i64 0, .int .i64 0, .int .i64 0, .int .i64 0, .int .i64 0]) ?_ 0 _ rfl; refine zzk ?_; exact BK357.out) Try.underlying23 rfl (by kernel_rfl)) rfl ?_
  exact ⟨zze, zzg⟩
end Go.Proofs.Ytekenddkoahjgaa.Q
end
section
namespace Go.Proofs.Ytekenddkoahjgaa.Q
open Go.RowKit Go.Proofs.YtekenddkoahjgaaW.PrintWords Go.Proofs.YtekenddkoahjgaaW.PrintLast Go.Proofs.YtekenddkoahjgaaW.PrintMore
attribute [local go_sem] max2_int min2_int max_two min_two max_three min_three max_four min_four
attribute [local go_sem] imax_u32 imax_u8 isg_u32 isg_u8
set_option linter.unusedVariables false
set_option linter.unusedSimpArgs false
def toB (x : Nat × Nat) : S40 := ⟨(x.1 : Int), (x.2 : Int)⟩
theorem drop_bv (l : List (Nat × Nat)) (j : Nat) (x : Nat × Nat) (h : l[j]? = some x) : ((Bl.bv l).drop (j * 2)).take 2 = [.int .u32 (x.1 : Int), .int .i64 (x.2 : Int)] := by
 obtain ⟨h1, h2⟩ := Bl.bv_get l j x h
 obtain ⟨g1, e1⟩ := List.getElem?_eq_some_iff.1 h1
 obtain ⟨g2, e2⟩ := List.getElem?_eq_some_iff.1 h2
 rw [List.drop_eq_getElem_cons g1, List.take_succ_cons, List.drop_eq_getElem_cons g2, List.take_succ_cons, List.take_zero, e1, e2]
theorem R_of_B {w : World} {base : Nat} {v : Value} {l : List (Nat × Nat)} (h : Bl.OwnB w base v l) : Kd.R k40 40 w base (fun _ => True) v (l.map toB) := by
 refine ⟨fun _ _ => trivial, Bl.bv l, ?_, ?_, fun j p hj => ?_⟩
 ·rw [List.length_map]; exact h
 ·rw [List.length_map]; exact Bl.bv_length l
 ·rw [List.getElem?_map] at hj
  obtain ⟨x, hx, rfl⟩ := Option.map_eq_some_iff.1 hj
  show k40.M _ _ _ _ (((Bl.bv l).drop (j * 2)).take 2)
  rw [drop_bv l j x hx]
  exact k40_mkM w base _ (toB x)
def natL (l : List Int) : List Nat := l.map Int.toNat
theorem cell_of {w : World} {A : Option Addr} {l : List Int} (h : Kd.C (Kd.int .u32) w A l.length l) (i : Nat) (x : Int) (hx : l[i]? = some x) : ∃ ad, A = some ad ∧ w.cell? (ad.add i) = some (.int .u32 x) := by
 have hp : 0 < l.length := by have := (List.getElem?_eq_some_iff.1 hx).1; omega
 obtain ⟨ad, e, hc⟩ := h.2.2 hp
 obtain ⟨c, _, hk, hcell⟩ := hc i x hx
 have hk' : c = [.int .u32 x] := hk
 subst hk'
 have := hcell 0 _ rfl
 rw [show i * (Kd.int .u32).sz + 0 = i by show i * 1 + 0 = i; omega] at this
 exact ⟨ad, e, this⟩
theorem RdU_of {w : World} {A : Option Addr} {l : List Int} (h : Kd.C (Kd.int .u32) w A l.length l) (h0 : ∀ x ∈ l, 0 ≤ x) : Bl.RdU w A (natL l) := by
 intro i hi
 have hi' : i < l.length := by simpa [natL] using hi
 obtain ⟨ad, e, hc⟩ := cell_of h i _ (List.getElem?_eq_getElem hi')
 refine ⟨ad, e, hc.trans ?_⟩
 have := h0 _ (List.getElem_mem hi')
 simp [Bl.uc, natL, List.getD_eq_getElem?_getD, List.getElem?_eq_getElem hi', Int.toNat_of_nonneg this]
def dec6 (v : Nat) : Int × Int × Int × Int × Int × Int := (inst_Decode.f 200 (v : Int)).getD (0, 0, 0, 0, 0, 20)
def decq (v : Nat) : Bl.Ins × Int := (((dec6 v).1, (dec6 v).2.1, (dec6 v).2.2.1, (dec6 v).2.2.2.1, (dec6 v).2.2.2.2.1), (dec6 v).2.2.2.2.2)
def Iq (base : Nat) (ws : List Nat) : Nat → Bl.Ins × Int := Bl.insv decq base ws
def aftq : Bl.Ins → Nat → List Nat := Bl.aftv frm rgt
def endq : Bl.Ins → Bool := Bl.endv frm rgt
theorem aftq_facts (x : Bl.Ins) (a : Nat) : (aftq x a).length ≤ 2 ∧ ∀ b ∈ aftq x a, b < 4294967296 := by
 have hT : Bl.tov x a < 4294967296 := by unfold Bl.tov; omega
 have hU : Bl.nextv a < 4294967296 := by unfold Bl.nextv; omega
 unfold aftq Bl.aftv
 split
 ·simp
 split
 ·simpa using hT
 split
 ·unfold Bl.dd
  split
  ·simp [hT, hU]
  split
  ·simp [hT, hU]
  ·simpa using hT
 split
 ·simp
 ·simpa using hU
set_option maxHeartbeats 4000000 in
theorem image_At_eq (b e : Int) (l : List Int) (s : Int) (a : Nat) (hb : 0 ≤ b ∧ b < 4294967296) (ha : a < 4294967296) (hl : l.length ≤ 1000) (h0 : ∀ x ∈ l, 0 ≤ x) :
  image_At.f b e l s (a : Int) = some (match Bl.wordv b.toNat (natL l) a with | none => (0, false) | some v => ((v : Int), true)) := by
 obtain ⟨b, rfl⟩ := Int.eq_ofNat_of_zero_le hb.1
 have w1 : wrap64 ((wrap64 (a : Int)) - (wrap64 (b : Int))) = (a : Int) - (b : Int) := by unfold wrap64; omega
 unfold image_At.f Bl.wordv
 rw [w1, Int.toNat_natCast]
 have t1 : Int.tmod (a : Int) 4 = ((a % 4 : Nat) : Int) := rfl
 by_cases h4 : a % 4 = 0
 ·rw [if_pos (by rw [t1, h4]; rfl)]
  by_cases hlt : b ≤ a
  ·have e1 : (a : Int) - (b : Int) = ((a - b : Nat) : Int) := by omega
   rw [e1, if_neg (by omega)]
   have t2 : Int.tmod ((a - b : Nat) : Int) 4 = (((a - b) % 4 : Nat) : Int) := rfl
   have t3 : Int.tdiv ((a - b : Nat) : Int) 4 = (((a - b) / 4 : Nat) : Int) := rfl
   have w2 : wrap64 (((a - b) / 4 : Nat) : Int) = (((a - b) / 4 : Nat) : Int) := by unfold wrap64; omega
   rw [t2, t3, w2]
   clear t1 t2 t3 w1 w2 e1
   by_cases hm : (a - b) % 4 = 0
   ·rw [if_pos (by rw [hm]; rfl), if_pos (show a % 4 = 0 ∧ b ≤ a ∧ (a - b) % 4 = 0 from ⟨h4, hlt, hm⟩)]
    clear h4 hm hlt ha
    generalize (a - b) / 4 = q
    by_cases hk : q < l.length
    ·rw [if_neg (by omega), if_pos (by omega), if_pos (by omega)]
     have hg : (natL l)[q]? = some (l[q].toNat) := by simp [natL, List.getElem?_eq_getElem hk]
     rw [hg]
     have hr : rd l ((q : Nat) : Int) = l[q] := by
      show l.getD (Int.toNat _) _ = _
      rw [Int.toNat_natCast, List.getD_eq_getElem?_getD, List.getElem?_eq_getElem hk]
      rfl
     have := h0 _ (List.getElem_mem hk)
     rw [hr]
     simp only [Int.toNat_of_nonneg this]
    ·rw [if_pos (by omega)]
     have hg : (natL l)[q]? = none := List.getElem?_eq_none (by simp [natL]; omega)
     rw [hg]
   ·rw [if_neg (by omega), if_neg (fun h => hm h.2.2)]
  ·rw [if_pos (by omega), if_neg (fun h => hlt h.2.1)]
 ·rw [if_neg (by rw [t1]; omega), if_neg (fun h => h4 h.1)]
theorem blocks_at_eq (b e : Int) (l : List Int) (s : Int) (a : Nat) (hb : 0 ≤ b ∧ b < 4294967296) (ha : a < 4294967296) (hl : l.length ≤ 1000) (h0 : ∀ x ∈ l, 0 ≤ x ∧ (inst_Decode.f 200 x).isSome = true) :
  blocks_at.f 200 b e l s (a : Int) = some ((Iq b.toNat (natL l) a).1.1, (Iq b.toNat (natL l) a).1.2.1, (Iq b.toNat (natL l) a).1.2.2.1, (Iq b.toNat (natL l) a).1.2.2.2.1, (Iq b.toNat (natL l) a).1.2.2.2.2, (Iq b.toNat (natL l) a).2) := by
 unfold blocks_at.f Iq Bl.insv
 rw [image_At_eq b e l s a hb ha hl (fun x hx => (h0 x hx).1), obs]
 cases hw : Bl.wordv b.toNat (natL l) a with
 | none => rfl
 | some v =>
  have hv : (v : Int) ∈ l := by
   unfold Bl.wordv at hw
   split at hw
   ·have := List.mem_of_getElem? hw
    obtain ⟨x, hx, rfl⟩ := List.mem_map.1 this
    rw [Int.toNat_of_nonneg (h0 x hx).1]
    exact hx
   ·cases hw
  have hd := (h0 _ hv).2
  obtain ⟨z, hz⟩ := Option.isSome_iff_exists.1 hd
  have hz6 : dec6 v = z := by unfold dec6; rw [hz]; rfl
  simp only [if_true, hz, obs, decq, hz6]
  by_cases h : z.2.2.2.2.2 = 0
  ·rw [if_pos h, if_neg (by simp [h])]
  ·rw [if_neg h, if_pos h]; rfl
theorem blocks_Ends_eq (op rd u v m : Int) (k : Nat) (hk : 4 ≤ k) : blocks_Ends.f k op rd u v m = some (endq (op, rd, u, v, m)) := by
 unfold blocks_Ends.f endq Bl.endv rgt
 rw [Right_eq _ _ _ _ _ k hk, obs]
 cases rightv op rd u v m with
 | false => rfl
 | true =>
  rw [if_pos rfl, Form_eq, obs]
  by_cases h : frm op = 66
  ·rw [if_pos h]; simp [h]
  rw [if_neg h]
  by_cases h2 : op = 2
  ·rw [if_pos h2]; simp [h2]
  rw [if_neg h2]
  by_cases h3 : op = 3
  ·rw [if_pos h3]; simp [h3]
  rw [if_neg h3]
  simp [h, h2, h3]
  rfl
def fuelq (l es : List Int) : Nat := 2 * l.length + es.length + 1
def okFind (b e : Int) (l es : List Int) : Prop := (0 ≤ b ∧ b < 4294967296) ∧ (0 ≤ e ∧ e < 4294967296) ∧ l.length ≤ 200 ∧ es.length ≤ 200 ∧ (∀ x ∈ l, 0 ≤ x ∧ (inst_Decode.f 200 x).isSome = true) ∧ (∀ x ∈ es, 0 ≤ x ∧ x < 4294967296) ∧ (Bl.rrun (Iq b.toNat (natL l)) aftq endq (fuelq l es) (Bl.rs0 e.toNat (natL es))).left = []
instance (b e : Int) (l es : List Int) : Decidable (okFind b e l es) := by unfold okFind; infer_instance
def findq (b e : Int) (l es : List Int) : List (Nat × Nat) × Int := Bl.findv (Iq b.toNat (natL l)) aftq endq (fuelq l es) e.toNat (natL es)
def blocks_Find.f (a0_0 : Int) (a0_1 : Int) (l0_2 : List Int) (a0_3 : Int) (l1 : List Int) : Option (List (S40) × Int) := if okFind a0_0 a0_1 l0_2 l1 then some ((findq a0_0 a0_1 l0_2 l1).1.map toB, (findq a0_0 a0_1 l0_2 l1).2) else none
theorem blocks_Find.calls (a0_0 : Int) (a0_1 : Int) (A0_2 : Option Addr) (c0_2 : Nat) (l0_2 : List Int) (a0_3 : Int) (A1 : Option Addr) (c1 : Nat) (l1 : List Int) (r1 : List (S40)) (r2 : Int) (w : World) (hr0_2 : Kd.C (Kd.int .u32) w A0_2 l0_2.length l0_2) (hc0_2 : l0_2.length ≤ c0_2) (hr1 : Kd.C (Kd.int .u32) w A1 l1.length l1) (hc1 : l1.length ≤ c1) (h : blocks_Find.f a0_0 a0_1 l0_2 a0_3 l1 = some (r1, r2)) :
  Calls Try.prog 19 #[.agg #[.int .u32 a0_0, .int .u32 a0_1, .slice A0_2 l0_2.length c0_2, .int .i64 a0_3], .slice A1 l1.length c1] w fun e w' => ∃ v0_ : Value, e = .returned (.tuple #[v0_, .int .i64 r2]) ∧ Kd.R k40 40 w' w.heap.size (fun _ => True) v0_ r1 ∧ Below w.heap.size w w' := by
 unfold blocks_Find.f at h
 split at h
 ·rename_i hs
  have h' := Option.some.inj h
  obtain rfl := congrArg Prod.fst h'
  obtain rfl := congrArg Prod.snd h'
  obtain ⟨hb, he, hl, hes, hw, hee, hfin⟩ := hs
  have hE : a0_1 = ((a0_1.toNat : Nat) : Int) := (Int.toNat_of_nonneg he.1).symm
  have hat : Bl.AtC w.heap.size w a0_0 ((a0_1.toNat : Nat) : Int) A0_2 l0_2.length c0_2 a0_3 (Iq a0_0.toNat (natL l0_2)) := by
   intro a w' ha hbl
   rw [← hE]
   exact blocks_at.calls 200 a0_0 a0_1 A0_2 c0_2 l0_2 a0_3 (a : Int) _ _ _ _ _ _ w' (Kd.C_below hr0_2 hbl) hc0_2 (blocks_at_eq a0_0 a0_1 l0_2 a0_3 a hb ha (by omega) hw)
  have hc := Bl.Find_calls (fuelq l0_2 l1) a0_0 a0_1.toNat A0_2 l0_2.length c0_2 a0_3 (Iq a0_0.toNat (natL l0_2)) aftq endq (natL l1) w A1 c1 l1.length afterC
   (fun op rd u v m w => blocks_Ends.calls 4 op rd u v m _ w (blocks_Ends_eq op rd u v m 4 (Nat.le_refl _))) hat aftq_facts (RdU_of hr1 (fun x hx => (hee x hx).1)) (by simp [natL]) (by omega)
   (by intro a ha; obtain ⟨x, hx, rfl⟩ := List.mem_map.1 ha; have := hee x hx; omega) (by unfold fuelq; omega) hfin
  rw [← hE] at hc
  refine hc.mono ?_
  rintro e w' ⟨v, rfl, hO, hbl⟩
  exact ⟨v, rfl, R_of_B hO, hbl⟩
 ·cases h
end Go.Proofs.Ytekenddkoahjgaa.Q
end
section
namespace Go.Proofs.Ytekenddkoahjgaa.Q
open Go.RowKit Go.Proofs.YtekenddkoahjgaaW.PrintWords Go.Proofs.YtekenddkoahjgaaW.PrintLast Go.Proofs.YtekenddkoahjgaaW.PrintMore
attribute [local go_sem] max2_int min2_int max_two min_two max_three min_three max_four min_four
attribute [local go_sem] imax_u32 imax_u8 isg_u32 isg_u8
set_option linter.unusedVariables false
set_option linter.unusedSimpArgs false
def r08_Nums.l0 : Nat → List Int → List Int → Int → Option (Bool)
 | 0, _, _, _ => none
 | k + 1, x0, x1, x5 => if x5 < (x0.length : Int) then (if 0 ≤ x5 then (if x5 < (x1.length : Int) then (if (rd x0 x5) = (rd x1 x5) then (r08_Nums.l0 k x0 x1 (wrap64 (x5 + 1))) else (some false)) else (none)) else (none)) else (some true)
def r08_Nums.f (k : Nat) (l0 : List Int) (l1 : List Int) : Option (Bool) := if (l0.length : Int) = (l1.length : Int) then (r08_Nums.l0 k l0 l1 0) else (some false)
set_option maxHeartbeats 8000000 in
set_option maxRecDepth 100000 in
theorem r08_Nums.calls (k : Nat) (A0 : Option Addr) (c0 : Nat) (l0 : List Int) (A1 : Option Addr) (c1 : Nat) (l1 : List Int) (r : Bool) (w : World) (hr0 : Kd.C (Kd.int .i64) w A0 l0.length l0) (hc0 : l0.length ≤ c0) (hr1 : Kd.C (Kd.int .i64) w A1 l1.length l1) (hc1 : l1.length ≤ c1) (h : r08_Nums.f k l0 l1 = some r) :
  Calls Try.prog 23 #[.slice A0 l0.length c0, .slice A1 l1.length c1] w fun e w' => e = .returned (.bool r) ∧ Drawn0 w w' := by
 have HR0 := zz hr0
 have HC0 := zz hc0
 clear hr0 hc0
 have HR1 := zz hr1
 have HC1 := zz hc1
 clear hr1 hc1
 have H : (if (l0.length : Int) = (l1.length : Int) then (r08_Nums.l0 k l0 l1 0) else (some false)) = some r := h
 clear h
 by_cases c3 : (l0.length : Int) = (l1.length : Int)
 ·rw [if_pos c3] at H
  have c3b0 : ((l0.length : Int) == (l1.length : Int)) = true := beq_iff_eq.mpr c3
  have c3b1 : ((l0.length : Int) != (l1.length : Int)) = false := bne_eq_false_iff_eq.mpr c3
  have c3b2 : (l0.length == l1.length) = true := by first | simpa using c3 | (simp at c3 ⊢; omega)
  clear c3
  have H' := zz H
  clear H
  go_enter Try.func23, Try.ntmps23
  go_wp2
  repeat (go_quiet (fail); try go_wp2)
  go_loopg [5] k (fun kq v5 w' => ∃ (x5_1 : Int), v5 = .int .i64 x5_1 ∧ Aside0 (r08_Nums.l0 kq l0 l1 x5_1 = some r) ∧ Aside0 (kq ≤ k) ∧ Drawn0 w w')
  case atStart => exact ⟨(0), (zzh), H', ⟨Nat.le_refl _⟩, zzd⟩
  case round =>
   clear H'
   try clear c1
   try clear c2
   try clear p2
   try clear c3
   try clear c3b0
   try clear c3b1
   try clear c3b2
   obtain ⟨x5_1, rfl, HA, HK1, ⟨m1, rfl⟩⟩ := hrel
   cases gk with
   | zero => exact absurd HA.out (by simp [r08_Nums.l0])
   | succ k1 =>
    have H := HA.out
    clear HA
    simp only [r08_Nums.l0] at H
    by_cases c4 : x5_1 < (l0.length : Int)
    ·rw [if_pos c4] at H
     have c4b0 : decide (x5_1 < (l0.length : Int)) = true := decide_eq_true c4
     clear c4
     by_cases c5 : 0 ≤ x5_1
     ·rw [if_pos c5] at H
      have c5b0 : decide (0 ≤ x5_1) = true := decide_eq_true c5
      clear c5
      by_cases c6 : x5_1 < (l1.length : Int)
      ·rw [if_pos c6] at H
       have c6b0 : decide (x5_1 < (l1.length : Int)) = true := decide_eq_true c6
       clear c6
       by_cases c7 : (rd l0 x5_1) = (rd l1 x5_1)
       ·rw [if_pos c7] at H
        have c7b0 : ((rd l0 x5_1) == (rd l1 x5_1)) = true := beq_iff_eq.mpr c7
        have c7b1 : ((rd l0 x5_1) != (rd l1 x5_1)) = false := bne_eq_false_iff_eq.mpr c7
        clear c7
        have H' := zz H
        clear H
        have p390 : 0 ≤ (x5_1 : Int) := of_decide_eq_true zzm
        have q390 : x5_1 < (l0.length : Int) := of_decide_eq_true zzm
        obtain ⟨ad390, e390, hx390_0⟩ := Kd.at_int HR0.out x5_1 p390 q390
        cases e390
        replace p390 := eq_true p390
        replace q390 := eq_true q390
        have p391 : 0 ≤ (x5_1 : Int) := of_decide_eq_true zzm
        have q391 : x5_1 < (l1.length : Int) := of_decide_eq_true zzm
        obtain ⟨ad391, e391, hx391_0⟩ := Kd.at_int HR1.out x5_1 p391 q391
        cases e391
        replace p391 := eq_true p391
        replace q391 := eq_true q391
        go_wp2
        repeat (go_quiet (fail); try go_wp2)
        go_roundg k1
        case measure => have := HK1.out; omega
        case rel => exact ⟨(wrap64 (x5_1 + 1)), (zzh), H', ⟨by have := HK1.out; omega⟩, zzd⟩
       ·rw [if_neg c7] at H
        have c7b0 : ((rd l0 x5_1) == (rd l1 x5_1)) = false := beq_eq_false_iff_ne.mpr c7
        have c7b1 : ((rd l0 x5_1) != (rd l1 x5_1)) = true := bne_iff_ne.mpr c7
        obtain rfl := Option.some.inj H
        have p390 : 0 ≤ (x5_1 : Int) := of_decide_eq_true zzm
        have q390 : x5_1 < (l0.length : Int) := of_decide_eq_true zzm
        obtain ⟨ad390, e390, hx390_0⟩ := Kd.at_int HR0.out x5_1 p390 q390
        cases e390
        replace p390 := eq_true p390
        replace q390 := eq_true q390
        have p391 : 0 ≤ (x5_1 : Int) := of_decide_eq_true zzm
        have q391 : x5_1 < (l1.length : Int) := of_decide_eq_true zzm
        obtain ⟨ad391, e391, hx391_0⟩ := Kd.at_int HR1.out x5_1 p391 q391
        cases e391
        replace p391 := eq_true p391
        replace q391 := eq_true q391
        go_wp2
        repeat (go_quiet (fail); try go_wp2)
        go_ret
        exact ⟨zzh, zzd⟩
      ·rw [if_neg c6] at H
       exact absurd H (by simp)
     ·rw [if_neg c5] at H
      exact absurd H (by simp)
    ·rw [if_neg c4] at H
     have c4b0 : decide (x5_1 < (l0.length : Int)) = false := decide_eq_false c4
     clear c4
     obtain rfl := Option.some.inj H
     go_wp2
     repeat (go_quiet (fail); try go_wp2)
     go_ret
     exact ⟨zzh, zzd⟩
 ·rw [if_neg c3] at H
  have c3b0 : ((l0.length : Int) == (l1.length : Int)) = false := beq_eq_false_iff_ne.mpr c3
  have c3b1 : ((l0.length : Int) != (l1.length : Int)) = true := bne_iff_ne.mpr c3
  have c3b2 : (l0.length == l1.length) = false := by first | simpa using c3 | (simp at c3 ⊢; omega)
  obtain rfl := Option.some.inj H
  go_enter Try.func23, Try.ntmps23
  go_wp2
  repeat (go_quiet (fail); try go_wp2)
  go_ret
  exact ⟨zzh, zzd⟩
end Go.Proofs.Ytekenddkoahjgaa.Q
end
section
namespace Go.Proofs.Ytekenddkoahjgaa.Q
open Go.RowKit Go.Proofs.YtekenddkoahjgaaW.PrintWords Go.Proofs.YtekenddkoahjgaaW.PrintLast Go.Proofs.YtekenddkoahjgaaW.PrintMore
attribute [local go_sem] max2_int min2_int max_two min_two max_three min_three max_four min_four
attribute [local go_sem] imax_u32 imax_u8 isg_u32 isg_u8
set_option linter.unusedVariables false
set_option linter.unusedSimpArgs false
theorem eqA40 (d : Nat) (w : World) (x0 y0 : Int) (x1 y1 : Int) :
  (Op.equalIn (d + 2) 40 (.agg #[.int .u32 x0, .int .i64 x1]) (.agg #[.int .u32 y0, .int .i64 y1])).run Try.prog w = .ok (x0 == y0 && (x1 == y1)) w := by
 refine eqA_of Try.underlying40 (by kernel_rfl) ?_
 refine eqf_cons (by rfl) (by go_simp; rfl) (by go_simp; rfl) (by go_simp) ?_
 exact eqf_last (by rfl) (by go_simp; rfl) (by go_simp; rfl) (by go_simp)
end Go.Proofs.Ytekenddkoahjgaa.Q
end
section
namespace Go.Proofs.Ytekenddkoahjgaa.Q
open Go.RowKit Go.Proofs.YtekenddkoahjgaaW.PrintWords Go.Proofs.YtekenddkoahjgaaW.PrintLast Go.Proofs.YtekenddkoahjgaaW.PrintMore
attribute [local go_sem] max2_int min2_int max_two min_two max_three min_three max_four min_four
attribute [local go_sem] imax_u32 imax_u8 isg_u32 isg_u8
set_option linter.unusedVariables false
set_option linter.unusedSimpArgs false
attribute [local go_sem high] eqA40
def r08_Same.l0 : Nat → List (S40) → List (S40) → Int → Option (Bool)
 | 0, _, _, _ => none
 | k + 1, x0, x1, x5 => if x5 < (x0.length : Int) then (if 0 ≤ x5 then (if x5 < (x1.length : Int) then (if (!(((rd_T40 x0 x5).f0) == ((rd_T40 x1 x5).f0)) || (!(((rd_T40 x0 x5).f1) == ((rd_T40 x1 x5).f1)))) = true then (some false) else (r08_Same.l0 k x0 x1 (wrap64 (x5 + 1)))) else (none)) else (none)) else (some true)
def r08_Same.f (k : Nat) (l0 : List (S40)) (l1 : List (S40)) : Option (Bool) := if (l0.length : Int) = (l1.length : Int) then (r08_Same.l0 k l0 l1 0) else (some false)
set_option maxHeartbeats 8000000 in
set_option maxRecDepth 100000 in
theorem r08_Same.calls (k : Nat) (A0 : Option Addr) (c0 : Nat) (l0 : List (S40)) (A1 : Option Addr) (c1 : Nat) (l1 : List (S40)) (r : Bool) (w : World) (hr0 : Kd.C k40 w A0 l0.length l0) (hc0 : l0.length ≤ c0) (hr1 : Kd.C k40 w A1 l1.length l1) (hc1 : l1.length ≤ c1) (h : r08_Same.f k l0 l1 = some r) :
  Calls Try.prog 20 #[.slice A0 l0.length c0, .slice A1 l1.length c1] w fun e w' => e = .returned (.bool r) ∧ Drawn0 w w' := by
 have hu40 := Try.underlying40
 have HR0 := zz hr0
 have HC0 := zz hc0
 clear hr0 hc0
 have HR1 := zz hr1
 have HC1 := zz hc1
 clear hr1 hc1
 have H : (if (l0.length : Int) = (l1.length : Int) then (r08_Same.l0 k l0 l1 0) else (some false)) = some r := h
 clear h
 by_cases c3 : (l0.length : Int) = (l1.length : Int)
 ·rw [if_pos c3] at H
  have c3b0 : ((l0.length : Int) == (l1.length : Int)) = true := beq_iff_eq.mpr c3
  have c3b1 : ((l0.length : Int) != (l1.length : Int)) = false := bne_eq_false_iff_eq.mpr c3
  have c3b2 : (l0.length == l1.length) = true := by first | simpa using c3 | (simp at c3 ⊢; omega)
  clear c3
  have H' := zz H
  clear H
  go_enter Try.func20, Try.ntmps20
  go_wp2
  repeat (go_quiet (fail); try go_wp2)
  go_loopg [5] k (fun kq v5 w' => ∃ (x5_1 : Int), v5 = .int .i64 x5_1 ∧ Aside0 (r08_Same.l0 kq l0 l1 x5_1 = some r) ∧ Aside0 (kq ≤ k) ∧ Drawn0 w w')
  case atStart => exact ⟨(0), (zzh), H', ⟨Nat.le_refl _⟩, zzd⟩
  case round =>
   clear H'
   try clear c1
   try clear c2
   try clear p2
   try clear c3
   try clear c3b0
   try clear c3b1
   try clear c3b2
   obtain ⟨x5_1, rfl, HA, HK1, ⟨m1, rfl⟩⟩ := hrel
   cases gk with
   | zero => exact absurd HA.out (by simp [r08_Same.l0])
   | succ k1 =>
    have H := HA.out
    clear HA
    simp only [r08_Same.l0] at H
    by_cases c4 : x5_1 < (l0.length : Int)
    ·rw [if_pos c4] at H
     have c4b0 : decide (x5_1 < (l0.length : Int)) = true := decide_eq_true c4
     clear c4
     by_cases c5 : 0 ≤ x5_1
     ·rw [if_pos c5] at H
      have c5b0 : decide (0 ≤ x5_1) = true := decide_eq_true c5
      clear c5
      by_cases c6 : x5_1 < (l1.length : Int)
      ·rw [if_pos c6] at H
       have c6b0 : decide (x5_1 < (l1.length : Int)) = true := decide_eq_true c6
       clear c6
       by_cases c7 : (!(((rd_T40 l0 x5_1).f0) == ((rd_T40 l1 x5_1).f0)) || (!(((rd_T40 l0 x5_1).f1) == ((rd_T40 l1 x5_1).f1)))) = true
       ·rw [if_pos c7] at H
        have c7b0 : (!(((rd_T40 l0 x5_1).f0) == ((rd_T40 l1 x5_1).f0)) || (!(((rd_T40 l0 x5_1).f1) == ((rd_T40 l1 x5_1).f1)))) = true := c7
        clear c7
        obtain rfl := Option.some.inj H
        have p367 : 0 ≤ (x5_1 : Int) := of_decide_eq_true zzm
        have q367 : x5_1 < (l0.length : Int) := of_decide_eq_true zzm
        obtain ⟨ad367, e367, hx367_0, hx367_1⟩ := at_T40 HR0.out x5_1 p367 q367
        cases e367
        replace p367 := eq_true p367
        replace q367 := eq_true q367
        have p368 : 0 ≤ (x5_1 : Int) := of_decide_eq_true zzm
        have q368 : x5_1 < (l1.length : Int) := of_decide_eq_true zzm
        obtain ⟨ad368, e368, hx368_0, hx368_1⟩ := at_T40 HR1.out x5_1 p368 q368
        cases e368
        replace p368 := eq_true p368
        replace q368 := eq_true q368
        go_wp2
        repeat (go_quiet (fail); try go_wp2)
        go_ret
        exact ⟨zzh, zzd⟩
       ·rw [if_neg c7] at H
        have c7b0 : (!(((rd_T40 l0 x5_1).f0) == ((rd_T40 l1 x5_1).f0)) || (!(((rd_T40 l0 x5_1).f1) == ((rd_T40 l1 x5_1).f1)))) = false := by simpa using c7
        clear c7
        have H' := zz H
        clear H
        have p367 : 0 ≤ (x5_1 : Int) := of_decide_eq_true zzm
        have q367 : x5_1 < (l0.length : Int) := of_decide_eq_true zzm
        obtain ⟨ad367, e367, hx367_0, hx367_1⟩ := at_T40 HR0.out x5_1 p367 q367
        cases e367
        replace p367 := eq_true p367
        replace q367 := eq_true q367
        have p368 : 0 ≤ (x5_1 : Int) := of_decide_eq_true zzm
        have q368 : x5_1 < (l1.length : Int) := of_decide_eq_true zzm
        obtain ⟨ad368, e368, hx368_0, hx368_1⟩ := at_T40 HR1.out x5_1 p368 q368
        cases e368
        replace p368 := eq_true p368
        replace q368 := eq_true q368
        go_wp2
        repeat (go_quiet (fail); try go_wp2)
        go_roundg k1
        case measure => have := HK1.out; omega
        case rel => exact ⟨(wrap64 (x5_1 + 1)), (zzh), H', ⟨by have := HK1.out; omega⟩, zzd⟩
      ·rw [if_neg c6] at H
       exact absurd H (by simp)
     ·rw [if_neg c5] at H
      exact absurd H (by simp)
    ·rw [if_neg c4] at H
     have c4b0 : decide (x5_1 < (l0.length : Int)) = false := decide_eq_false c4
     clear c4
     obtain rfl := Option.some.inj H
     go_wp2
     repeat (go_quiet (fail); try go_wp2)
     go_ret
     exact ⟨zzh, zzd⟩
 ·rw [if_neg c3] at H
  have c3b0 : ((l0.length : Int) == (l1.length : Int)) = false := beq_eq_false_iff_ne.mpr c3
  have c3b1 : ((l0.length : Int) != (l1.length : Int)) = true := bne_iff_ne.mpr c3
  have c3b2 : (l0.length == l1.length) = false := by first | simpa using c3 | (simp at c3 ⊢; omega)
  obtain rfl := Option.some.inj H
  go_enter Try.func20, Try.ntmps20
  go_wp2
  repeat (go_quiet (fail); try go_wp2)
  go_ret
  exact ⟨zzh, zzd⟩
def slices_Index_uint32_uint32.l0 : Nat → List Int → Int → Int → Int → Option (Int)
 | 0, _, _, _, _ => none
 | k + 1, x0, x1, x7, x8 => if x8 < x7 then (if 0 ≤ x8 then (if x8 < (x0.length : Int) then (if x1 = (rd x0 x8) then (some x8) else (slices_Index_uint32_uint32.l0 k x0 x1 x7 (wrap64 (x8 + 1)))) else (none)) else (none)) else (some (-1))
def slices_Index_uint32_uint32.f (k : Nat) (l0 : List Int) (a1 : Int) : Option (Int) := slices_Index_uint32_uint32.l0 k l0 a1 (l0.length : Int) 0
set_option maxHeartbeats 8000000 in
set_option maxRecDepth 100000 in
theorem slices_Index_uint32_uint32.calls (k : Nat) (A0 : Option Addr) (c0 : Nat) (l0 : List Int) (a1 : Int) (r : Int) (w : World) (hr0 : Kd.C (Kd.int .u32) w A0 l0.length l0) (hc0 : l0.length ≤ c0) (h : slices_Index_uint32_uint32.f k l0 a1 = some r) :
  Calls Try.prog 61 #[.slice A0 l0.length c0, .int .u32 a1] w fun e w' => e = .returned (.int .i64 r) ∧ Drawn0 w w' := by
 have HR0 := zz hr0
 have HC0 := zz hc0
 clear hr0 hc0
 have H : (slices_Index_uint32_uint32.l0 k l0 a1 (l0.length : Int) 0) = some r := h
 clear h
 have H' := zz H
 clear H
 go_enter Try.func61, Try.ntmps61
 go_wp2
 go_loopg [8] k (fun kq v8 w' => ∃ (x8_1 : Int), v8 = .int .i64 x8_1 ∧ Aside0 (slices_Index_uint32_uint32.l0 kq l0 a1 (l0.length : Int) x8_1 = some r) ∧ Aside0 (kq ≤ k) ∧ Drawn0 w w')
 case atStart => exact ⟨(0), (zzh), H', ⟨Nat.le_refl _⟩, zzd⟩
 case round =>
  clear H'
  try clear p2
  obtain ⟨x8_1, rfl, HA, HK1, ⟨m1, rfl⟩⟩ := hrel
  cases gk with
  | zero => exact absurd HA.out (by simp [slices_Index_uint32_uint32.l0])
  | succ k1 =>
   have H := HA.out
   clear HA
   simp only [slices_Index_uint32_uint32.l0] at H
   by_cases c3 : x8_1 < (l0.length : Int)
   ·rw [if_pos c3] at H
    have c3b0 : decide (x8_1 < (l0.length : Int)) = true := decide_eq_true c3
    clear c3
    by_cases c4 : 0 ≤ x8_1
    ·rw [if_pos c4] at H
     have c4b0 : decide (0 ≤ x8_1) = true := decide_eq_true c4
     clear c4
     by_cases c5 : x8_1 < (l0.length : Int)
     ·rw [if_pos c5] at H
      have c5b0 : decide (x8_1 < (l0.length : Int)) = true := decide_eq_true c5
      clear c5
      by_cases c6 : a1 = (rd l0 x8_1)
      ·rw [if_pos c6] at H
       have c6b0 : (a1 == (rd l0 x8_1)) = true := beq_iff_eq.mpr c6
       have c6b1 : (a1 != (rd l0 x8_1)) = false := bne_eq_false_iff_eq.mpr c6
       clear c6
       obtain rfl := Option.some.inj H
       have p369 : 0 ≤ (x8_1 : Int) := of_decide_eq_true zzm
       have q369 : x8_1 < (l0.length : Int) := of_decide_eq_true zzm
       obtain ⟨ad369, e369, hx369_0⟩ := Kd.at_int HR0.out x8_1 p369 q369
       cases e369
       replace p369 := eq_true p369
       replace q369 := eq_true q369
       go_wp2
       go_ret
       exact ⟨zzh, zzd⟩
      ·rw [if_neg c6] at H
       have c6b0 : (a1 == (rd l0 x8_1)) = false := beq_eq_false_iff_ne.mpr c6
       have c6b1 : (a1 != (rd l0 x8_1)) = true := bne_iff_ne.mpr c6
       have H' := zz H
       clear H
       have p369 : 0 ≤ (x8_1 : Int) := of_decide_eq_true zzm
       have q369 : x8_1 < (l0.length : Int) := of_decide_eq_true zzm
       obtain ⟨ad369, e369, hx369_0⟩ := Kd.at_int HR0.out x8_1 p369 q369
       cases e369
       replace p369 := eq_true p369
       replace q369 := eq_true q369
       go_wp2
       go_roundg k1
       case measure => have := HK1.out; omega
       case rel => exact ⟨(wrap64 (x8_1 + 1)), (zzh), H', ⟨by have := HK1.out; omega⟩, zzd⟩
     ·rw [if_neg c5] at H
      exact absurd H (by simp)
    ·rw [if_neg c4] at H
     exact absurd H (by simp)
   ·rw [if_neg c3] at H
    have c3b0 : decide (x8_1 < (l0.length : Int)) = false := decide_eq_false c3
    clear c3
    obtain rfl := Option.some.inj H
    go_wp2
    go_ret
    exact ⟨zzh, zzd⟩
end Go.Proofs.Ytekenddkoahjgaa.Q
end
section
namespace Go.Proofs.Ytekenddkoahjgaa.Q
open Go.RowKit Go.Proofs.YtekenddkoahjgaaW.PrintWords Go.Proofs.YtekenddkoahjgaaW.PrintLast Go.Proofs.YtekenddkoahjgaaW.PrintMore
attribute [local go_sem] max2_int min2_int max_two min_two max_three min_three max_four min_four
attribute [local go_sem] imax_u32 imax_u8 isg_u32 isg_u8
set_option linter.unusedVariables false
set_option linter.unusedSimpArgs false
def slices_Contains_uint32_uint32.f (k : Nat) (l0 : List Int) (a1 : Int) : Option (Bool) := (slices_Index_uint32_uint32.f k l0 a1).bind fun t370 => (some (decide (t370 ≥ 0)))
set_option maxHeartbeats 8000000 in
set_option maxRecDepth 100000 in
theorem slices_Contains_uint32_uint32.calls (k : Nat) (A0 : Option Addr) (c0 : Nat) (l0 : List Int) (a1 : Int) (r : Bool) (w : World) (hr0 : Kd.C (Kd.int .u32) w A0 l0.length l0) (hc0 : l0.length ≤ c0) (h : slices_Contains_uint32_uint32.f k l0 a1 = some r) :
  Calls Try.prog 43 #[.slice A0 l0.length c0, .int .u32 a1] w fun e w' => e = .returned (.bool r) ∧ Drawn0 w w' := by
 have HR0 := zz hr0
 have HC0 := zz hc0
 clear hr0 hc0
 have H : ((slices_Index_uint32_uint32.f k l0 a1).bind fun t370 => (some (decide (t370 ≥ 0)))) = some r := h
 clear h
 replace H := Option.bind_eq_some_iff.mp H
 obtain ⟨t370, A30, H⟩ := H
 replace H : (some (decide (t370 ≥ 0))) = some r := H
 have A3 := zz A30
 clear A30
 obtain rfl := Option.some.inj H
 go_enter Try.func43, Try.ntmps43
 go_wp2_with (first | ((with_reducible refine gate_callee (f := 61) rfl ?_); refine goesL_ (some 7) rfl rfl Try.func61 (by kernel_rfl) rfl #[.slice A0 l0.length c0, .int .u32 a1] rfl zza ?_; (with_reducible refine (slices_Index_uint32_uint32.calls k _ _ l0 a1 t370 _ ?side1 ?side2 A3.out).mono ?_); (case side1 => repeat (first | exact HR0.out | (with_reducible refine Kd.C_alloc ?_ _) | (with_reducible refine Kd.C_drewN ?_ _) | (with_reducible refine Kd.C_drew ?_))); (case side2 => exact HC0.out); rintro e w' ⟨rfl, ⟨nd, rfl⟩⟩; refine ⟨_, rfl, ?_⟩))
 go_ret
 exact ⟨zzh, zzd⟩
end Go.Proofs.Ytekenddkoahjgaa.Q
end
