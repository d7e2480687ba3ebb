import Derived.Test.YtekenddkoahjgaaFZc
import Derived.Test.YtekenddkoahjgaaFQx3
import Derived.Test.YtekenddkoahjgaaFQx6
namespace Go.Proofs.Ytekenddkoahjgaa.Q
open Go.RowKit Go.Proofs.YtekenddkoahjgaaW.PrintWords Go.Proofs.YtekenddkoahjgaaW.PrintLast Go.Proofs.YtekenddkoahjgaaW.PrintMore
attribute [local go_sem] max2_int min2_int max_two min_two max_three min_three max_four min_four
attribute [local go_sem] imax_u32 imax_u8 isg_u32 isg_u8
set_option linter.unusedVariables false
set_option linter.unusedSimpArgs false
mutual
def inst_tells.j0 : Nat → Int → Int → Bool → Int → Int → Int → Int → Option (Bool)
 | 0, _, _, _, _, _, _, _ => none
 | k + 1, x1, x6, x7, x119000, x119001, x119002, x119003 => if x7 = true then ((word_Field.f k x1 0 7).bind fun t119 => (some (t119 == x119001))) else (if x6 = 82 then (inst_tells.j1 k x1 x6 (x6 == 82) x119000 x119001 x119002 x119003) else (inst_tells.j1 k x1 x6 (x6 == 72) x119000 x119001 x119002 x119003))
def inst_tells.j1 : Nat → Int → Int → Bool → Int → Int → Int → Int → Option (Bool)
 | 0, _, _, _, _, _, _, _ => none
 | k + 1, x1, x6, x15, x119000, x119001, x119002, x119003 => if x15 = true then ((word_Field.f k x1 0 7).bind fun t120 => (if t120 = x119001 then ((word_Field.f k x1 12 3).bind fun t121 => (if t121 = x119002 then ((word_Field.f k x1 25 7).bind fun t122 => (some (t122 == x119003))) else (some false))) else (some false))) else (if x6 = 73 then (inst_tells.j2 k x1 (x6 == 73) x119000 x119001 x119002 x119003) else (if x6 = 83 then (inst_tells.j2 k x1 (x6 == 83) x119000 x119001 x119002 x119003) else (inst_tells.j2 k x1 (x6 == 66) x119000 x119001 x119002 x119003)))
def inst_tells.j2 : Nat → Int → Bool → Int → Int → Int → Int → Option (Bool)
 | 0, _, _, _, _, _, _ => none
 | k + 1, x1, x37, x119000, x119001, x119002, x119003 => if x37 = true then ((word_Field.f k x1 0 7).bind fun t123 => (if t123 = x119001 then ((word_Field.f k x1 12 3).bind fun t124 => (some (t124 == x119002))) else (some false))) else (some false)
end
def inst_tells.f (k : Nat) (a0_0 : Int) (a0_1 : Int) (a0_2 : Int) (a0_3 : Int) (a1 : Int) : Option (Bool) := if a0_0 = 85 then (inst_tells.j0 k a1 a0_0 (a0_0 == 85) a0_0 a0_1 a0_2 a0_3) else (inst_tells.j0 k a1 a0_0 (a0_0 == 74) a0_0 a0_1 a0_2 a0_3)
theorem inst_tells.mono_l : ∀ k, (∀ y0 y1 y2 y3 y4 y5 y6, LeO (inst_tells.j0 k y0 y1 y2 y3 y4 y5 y6) (inst_tells.j0 (k + 1) y0 y1 y2 y3 y4 y5 y6)) ∧ (∀ y0 y1 y2 y3 y4 y5 y6, LeO (inst_tells.j1 k y0 y1 y2 y3 y4 y5 y6) (inst_tells.j1 (k + 1) y0 y1 y2 y3 y4 y5 y6)) ∧ (∀ y0 y1 y2 y3 y4 y5, LeO (inst_tells.j2 k y0 y1 y2 y3 y4 y5) (inst_tells.j2 (k + 1) y0 y1 y2 y3 y4 y5))
 | 0 => ⟨fun _ _ _ _ _ _ _ r h => by simp [inst_tells.j0] at h, fun _ _ _ _ _ _ _ r h => by simp [inst_tells.j1] at h, fun _ _ _ _ _ _ r h => by simp [inst_tells.j2] at h⟩
 | k + 1 => by
  obtain ⟨ih0, ih1, ih2⟩ := inst_tells.mono_l k
  refine ⟨?_, ?_, ?_⟩
  ·intro y0 y1 y2 y3 y4 y5 y6
   unfold inst_tells.j0
   repeat' first
   | (with_reducible exact ih0 _ _ _ _ _ _ _)
   | (with_reducible exact ih1 _ _ _ _ _ _ _)
   | (with_reducible exact ih2 _ _ _ _ _ _)
   | (with_reducible exact word_Field.mono _ _ _ _)
   | (with_reducible exact LeO.refl _)
   | (with_reducible exact LeO.none _)
   | (with_reducible refine LeO.ite ?_ ?_)
   | (with_reducible refine LeO.bind ?_ (fun _ => ?_))
   | exact ih0 _ _ _ _ _ _ _
   | exact ih1 _ _ _ _ _ _ _
   | exact ih2 _ _ _ _ _ _
   | exact word_Field.mono _ _ _ _
   | exact LeO.none _
   | refine LeO.ite ?_ ?_
   | refine LeO.bind ?_ (fun _ => ?_)
  ·intro y0 y1 y2 y3 y4 y5 y6
   unfold inst_tells.j1
   repeat' first
   | (with_reducible exact ih0 _ _ _ _ _ _ _)
   | (with_reducible exact ih1 _ _ _ _ _ _ _)
   | (with_reducible exact ih2 _ _ _ _ _ _)
   | (with_reducible exact word_Field.mono _ _ _ _)
   | (with_reducible exact LeO.refl _)
   | (with_reducible exact LeO.none _)
   | (with_reducible refine LeO.ite ?_ ?_)
   | (with_reducible refine LeO.bind ?_ (fun _ => ?_))
   | exact ih0 _ _ _ _ _ _ _
   | exact ih1 _ _ _ _ _ _ _
   | exact ih2 _ _ _ _ _ _
   | exact word_Field.mono _ _ _ _
   | exact LeO.none _
   | refine LeO.ite ?_ ?_
   | refine LeO.bind ?_ (fun _ => ?_)
  ·intro y0 y1 y2 y3 y4 y5
   unfold inst_tells.j2
   repeat' first
   | (with_reducible exact ih0 _ _ _ _ _ _ _)
   | (with_reducible exact ih1 _ _ _ _ _ _ _)
   | (with_reducible exact ih2 _ _ _ _ _ _)
   | (with_reducible exact word_Field.mono _ _ _ _)
   | (with_reducible exact LeO.refl _)
   | (with_reducible exact LeO.none _)
   | (with_reducible refine LeO.ite ?_ ?_)
   | (with_reducible refine LeO.bind ?_ (fun _ => ?_))
   | exact ih0 _ _ _ _ _ _ _
   | exact ih1 _ _ _ _ _ _ _
   | exact ih2 _ _ _ _ _ _
   | exact word_Field.mono _ _ _ _
   | exact LeO.none _
   | refine LeO.ite ?_ ?_
   | refine LeO.bind ?_ (fun _ => ?_)
theorem inst_tells.mono : ∀ a0 a1 a2 a3 a4 k, LeO (inst_tells.f k a0 a1 a2 a3 a4) (inst_tells.f (k + 1) a0 a1 a2 a3 a4) := by
 intro a0 a1 a2 a3 a4 k
 obtain ⟨ih0, ih1, ih2⟩ := inst_tells.mono_l k
 unfold inst_tells.f
 repeat' first
   | (with_reducible exact ih0 _ _ _ _ _ _ _)
   | (with_reducible exact ih1 _ _ _ _ _ _ _)
   | (with_reducible exact ih2 _ _ _ _ _ _)
   | (with_reducible exact word_Field.mono _ _ _ _)
   | (with_reducible exact LeO.refl _)
   | (with_reducible exact LeO.none _)
   | (with_reducible refine LeO.ite ?_ ?_)
   | (with_reducible refine LeO.bind ?_ (fun _ => ?_))
   | exact ih0 _ _ _ _ _ _ _
   | exact ih1 _ _ _ _ _ _ _
   | exact ih2 _ _ _ _ _ _
   | exact word_Field.mono _ _ _ _
   | exact LeO.none _
   | refine LeO.ite ?_ ?_
   | refine LeO.bind ?_ (fun _ => ?_)
set_option maxHeartbeats 8000000 in
set_option maxRecDepth 100000 in
theorem inst_tells.calls (k : Nat) (a0_0 : Int) (a0_1 : Int) (a0_2 : Int) (a0_3 : Int) (a1 : Int) (r : Bool) (w : World) (h : inst_tells.f k a0_0 a0_1 a0_2 a0_3 a1 = some r) :
  Calls Try.prog 76 #[.agg #[.int .u8 a0_0, .int .u32 a0_1, .int .u32 a0_2, .int .u32 a0_3], .int .u32 a1] w fun e w' => e = .returned (.bool r) ∧ Below w.heap.size w w' := by
 have hu74 := Try.underlying74
 have HB := Aside0.mk (Below.refl w.heap.size w)
 have H : (if a0_0 = 85 then (inst_tells.j0 k a1 a0_0 (a0_0 == 85) a0_0 a0_1 a0_2 a0_3) else (inst_tells.j0 k a1 a0_0 (a0_0 == 74) a0_0 a0_1 a0_2 a0_3)) = some r := h
 clear h
 have HC3 := Aside0.mk H
 clear H
 go_enter Try.func76, Try.ntmps76
 go_upto_if 7 with (first | ((with_reducible refine gate_dst (N := 2) rfl ?_); refine box_event ?hg (N := 2) ?hd (cs := #[.int .u8 a0_0, .int .u32 a0_1, .int .u32 a0_2, .int .u32 a0_3]) (t := 74) ?hr ?_; (case hd => rfl); (case hg => rfl); (case hr => first | (go_simp; done) | (go_simp; rfl)); intro gb118 hg w4 hbox hb; have n0_ := Aside0.mk (below_step zzb hb); have n1_ := Aside0.mk (hbox); have n2_ := Aside0.mk ((by rw [hg]; exact (below_size zzb) : w.heap.size ≤ gb118)); have n3_ := Aside0.mk ((by rw [hg]; exact (below_size zzb) : w.heap.size ≤ gb118)); clear HB; have HB := n0_; have BK118 := n1_; have GW118 := n2_; have GE118 := n3_; clear n0_ n1_ n2_ n3_; clear hb hbox hg; obtain ⟨hcz5_0, hcz5_1, hcz5_2, hcz5_3⟩ := zzc4 BK118.out (.int .u8 a0_0) (.int .u32 a0_1) (.int .u32 a0_2) (.int .u32 a0_3); obtain ⟨hfz5_0, hfz5_1, hfz5_2, hfz5_3⟩ := zzf4 BK118.out))
 repeat (go_quiet (first | ((with_reducible refine gate_dst (N := 2) rfl ?_); refine box_event ?hg (N := 2) ?hd (cs := #[.int .u8 a0_0, .int .u32 a0_1, .int .u32 a0_2, .int .u32 a0_3]) (t := 74) ?hr ?_; (case hd => rfl); (case hg => rfl); (case hr => first | (go_simp; done) | (go_simp; rfl)); intro gb118 hg w4 hbox hb; have n0_ := Aside0.mk (below_step zzb hb); have n1_ := Aside0.mk (hbox); have n2_ := Aside0.mk ((by rw [hg]; exact (below_size zzb) : w.heap.size ≤ gb118)); have n3_ := Aside0.mk ((by rw [hg]; exact (below_size zzb) : w.heap.size ≤ gb118)); clear HB; have HB := n0_; have BK118 := n1_; have GW118 := n2_; have GE118 := n3_; clear n0_ n1_ n2_ n3_; clear hb hbox hg; obtain ⟨hcz5_0, hcz5_1, hcz5_2, hcz5_3⟩ := zzc4 BK118.out (.int .u8 a0_0) (.int .u32 a0_1) (.int .u32 a0_2) (.int .u32 a0_3); obtain ⟨hfz5_0, hfz5_1, hfz5_2, hfz5_3⟩ := zzf4 BK118.out)); go_upto_if 7 with (first | ((with_reducible refine gate_dst (N := 2) rfl ?_); refine box_event ?hg (N := 2) ?hd (cs := #[.int .u8 a0_0, .int .u32 a0_1, .int .u32 a0_2, .int .u32 a0_3]) (t := 74) ?hr ?_; (case hd => rfl); (case hg => rfl); (case hr => first | (go_simp; done) | (go_simp; rfl)); intro gb118 hg w4 hbox hb; have n0_ := Aside0.mk (below_step zzb hb); have n1_ := Aside0.mk (hbox); have n2_ := Aside0.mk ((by rw [hg]; exact (below_size zzb) : w.heap.size ≤ gb118)); have n3_ := Aside0.mk ((by rw [hg]; exact (below_size zzb) : w.heap.size ≤ gb118)); clear HB; have HB := n0_; have BK118 := n1_; have GW118 := n2_; have GE118 := n3_; clear n0_ n1_ n2_ n3_; clear hb hbox hg; obtain ⟨hcz5_0, hcz5_1, hcz5_2, hcz5_3⟩ := zzc4 BK118.out (.int .u8 a0_0) (.int .u32 a0_1) (.int .u32 a0_2) (.int .u32 a0_3); obtain ⟨hfz5_0, hfz5_1, hfz5_2, hfz5_3⟩ := zzf4 BK118.out)))
 (try simp only [Act.put, List.setIfInBounds_toArray, List.set_cons_zero, List.set_cons_succ])
 go_cut [7] (fun v7 wc => ∃ (kq : Nat) (x7_2 : Bool), v7 = .bool x7_2 ∧ Aside0 (inst_tells.j0 kq a1 a0_0 x7_2 a0_0 a0_1 a0_2 a0_3 = some r) ∧ Aside0 (kq ≤ k) ∧ Aside0 (wc.heap[gb118]? = some (.cells #[.int .u8 a0_0, .int .u32 a0_1, .int .u32 a0_2, .int .u32 a0_3] 74 (0, 0))) ∧ Aside0 (Below w.heap.size w wc))
 case first =>
  have H := HC3.out
  clear HC3
  by_cases c6 : a0_0 = 85
  ·rw [if_pos c6] at H
   have c6b0 : (a0_0 == 85) = true := beq_iff_eq.mpr c6
   have c6b1 : (a0_0 != 85) = false := bne_eq_false_iff_eq.mpr c6
   clear c6
   (first | rw [c6b0] | (simp only [i64_w, i32_w]; rw [c6b0]) | skip)
   have H' := Aside0.mk H
   clear H
   go_wp2
   repeat (go_quiet (fail); try go_wp2)
   go_meet
   case rel => exact ⟨_, ((a0_0 == 85)), (by first | rfl | (simp; done) | (simp [*]; done)), H', ⟨by first | omega | exact Nat.le_refl _⟩, ⟨by refine zzk ?_; exact BK118.out⟩, ⟨by repeat (first | (with_reducible first | exact HB.out | apply below_alloc | apply pw_below_drewN | apply below_drew1 | refine below_set ?_ GE118.out) | exact HB.out)⟩⟩
  ·rw [if_neg c6] at H
   have c6b0 : (a0_0 == 85) = false := beq_eq_false_iff_ne.mpr c6
   have c6b1 : (a0_0 != 85) = true := bne_iff_ne.mpr c6
   (first | rw [c6b0] | (simp only [i64_w, i32_w]; rw [c6b0]) | skip)
   have H' := Aside0.mk H
   clear H
   go_wp2
   repeat (go_quiet (fail); try go_wp2)
   go_meet
   case rel => exact ⟨_, ((a0_0 == 74)), (by first | rfl | (simp; done) | (simp [*]; done)), H', ⟨by first | omega | exact Nat.le_refl _⟩, ⟨by refine zzk ?_; exact BK118.out⟩, ⟨by repeat (first | (with_reducible first | exact HB.out | apply below_alloc | apply pw_below_drewN | apply below_drew1 | refine below_set ?_ GE118.out) | exact HB.out)⟩⟩
 case rest =>
  clear HC3
  try clear p2
  try clear c6
  try clear c6b0
  try clear c6b1
  try clear hcz5_0 hcz5_1 hcz5_2 hcz5_3
  try clear hfz5_0 hfz5_1 hfz5_2 hfz5_3
  obtain ⟨kq, x7_2, rfl, HA, HJ2, BK118, HB⟩ := hcut
  cases kq with
  | zero => exact absurd HA.out (by simp [inst_tells.j0])
  | succ kj2 =>
   have H := HA.out
   clear HA
   simp only [inst_tells.j0] at H
   by_cases c7 : x7_2 = true
   ·subst c7
    have H1 : ((word_Field.f kj2 a1 0 7).bind fun t119 => (some (t119 == a0_1))) = some r := by rw [if_pos rfl] at H; exact H
    clear H
    have H := H1
    clear H1
    replace H := Option.bind_eq_some_iff.mp H
    obtain ⟨t119, A80, H⟩ := H
    replace H : (some (t119 == a0_1)) = some r := H
    have A8 := Aside0.mk A80
    clear A80
    obtain rfl := Option.some.inj H
    go_wp2_with (first | (go_at_call 78; (with_reducible refine (word_Field.calls kj2 a1 0 7 t119 _ A8.out).mono ?_); rintro e w' ⟨rfl, ⟨nd, rfl⟩⟩; (try first | exact ⟨rfl, _, World.drewN_drewN _ _ _⟩ | exact ⟨rfl, _, Eq.trans (World.drewN_drewN _ _ _) (congrArg (World.drewN _) (Nat.add_assoc _ _ _))⟩); obtain ⟨hcz9_0, hcz9_1, hcz9_2, hcz9_3⟩ := zzc4 BK118.out (.int .u8 a0_0) (.int .u32 a0_1) (.int .u32 a0_2) (.int .u32 a0_3); obtain ⟨hfz9_0, hfz9_1, hfz9_2, hfz9_3⟩ := zzf4 BK118.out))
    repeat (go_quiet (first | (go_at_call 78; (with_reducible refine (word_Field.calls kj2 a1 0 7 t119 _ A8.out).mono ?_); rintro e w' ⟨rfl, ⟨nd, rfl⟩⟩; (try first | exact ⟨rfl, _, World.drewN_drewN _ _ _⟩ | exact ⟨rfl, _, Eq.trans (World.drewN_drewN _ _ _) (congrArg (World.drewN _) (Nat.add_assoc _ _ _))⟩); obtain ⟨hcz9_0, hcz9_1, hcz9_2, hcz9_3⟩ := zzc4 BK118.out (.int .u8 a0_0) (.int .u32 a0_1) (.int .u32 a0_2) (.int .u32 a0_3); obtain ⟨hfz9_0, hfz9_1, hfz9_2, hfz9_3⟩ := zzf4 BK118.out)); try go_wp2_with (first | (go_at_call 78; (with_reducible refine (word_Field.calls kj2 a1 0 7 t119 _ A8.out).mono ?_); rintro e w' ⟨rfl, ⟨nd, rfl⟩⟩; (try first | exact ⟨rfl, _, World.drewN_drewN _ _ _⟩ | exact ⟨rfl, _, Eq.trans (World.drewN_drewN _ _ _) (congrArg (World.drewN _) (Nat.add_assoc _ _ _))⟩); obtain ⟨hcz9_0, hcz9_1, hcz9_2, hcz9_3⟩ := zzc4 BK118.out (.int .u8 a0_0) (.int .u32 a0_1) (.int .u32 a0_2) (.int .u32 a0_3); obtain ⟨hfz9_0, hfz9_1, hfz9_2, hfz9_3⟩ := zzf4 BK118.out)))
    go_ret
    exact ⟨by first | rfl | (simp [errW_none, errW_some] <;> rfl) | (simp [*, errW_none, errW_some] <;> rfl), by repeat (first | (with_reducible first | exact HB.out | apply below_alloc | apply pw_below_drewN | apply below_drew1 | refine below_set ?_ GE118.out) | exact HB.out)⟩
   ·replace c7 := Bool.eq_false_iff.mpr c7
    subst c7
    have H1 : (if a0_0 = 82 then (inst_tells.j1 kj2 a1 a0_0 (a0_0 == 82) a0_0 a0_1 a0_2 a0_3) else (inst_tells.j1 kj2 a1 a0_0 (a0_0 == 72) a0_0 a0_1 a0_2 a0_3)) = some r := by rw [if_neg (show ¬ (false = true) by decide)] at H; exact H
    clear H
    have H := H1
    clear H1
    have HC10 := Aside0.mk H
    clear H
    go_upto_if 15 with (fail)
    repeat (go_quiet (fail); go_upto_if 15 with (fail))
    go_cut [15] (fun v15 wc => ∃ (kq : Nat) (x15_9 : Bool), v15 = .bool x15_9 ∧ Aside0 (inst_tells.j1 kq a1 a0_0 x15_9 a0_0 a0_1 a0_2 a0_3 = some r) ∧ Aside0 (kq ≤ kj2) ∧ Aside0 (wc.heap[gb118]? = some (.cells #[.int .u8 a0_0, .int .u32 a0_1, .int .u32 a0_2, .int .u32 a0_3] 74 (0, 0))) ∧ Aside0 (Below w.heap.size w wc))
    case first =>
     have H := HC10.out
     clear HC10
     by_cases c11 : a0_0 = 82
     ·rw [if_pos c11] at H
      have c11b0 : (a0_0 == 82) = true := beq_iff_eq.mpr c11
      have c11b1 : (a0_0 != 82) = false := bne_eq_false_iff_eq.mpr c11
      clear c11
      (first | rw [c11b0] | (simp only [i64_w, i32_w]; rw [c11b0]) | skip)
      have H' := Aside0.mk H
      clear H
      go_wp2
      repeat (go_quiet (fail); try go_wp2)
      go_meet
      case rel => exact ⟨_, ((a0_0 == 82)), (by first | rfl | (simp; done) | (simp [*]; done)), H', ⟨by have := HJ2.out; first | omega | exact Nat.le_refl _⟩, ⟨by refine zzk ?_; exact BK118.out⟩, ⟨by repeat (first | (with_reducible first | exact HB.out | apply below_alloc | apply pw_below_drewN | apply below_drew1 | refine below_set ?_ GE118.out) | exact HB.out)⟩⟩
     ·rw [if_neg c11] at H
      have c11b0 : (a0_0 == 82) = false := beq_eq_false_iff_ne.mpr c11
      have c11b1 : (a0_0 != 82) = true := bne_iff_ne.mpr c11
      (first | rw [c11b0] | (simp only [i64_w, i32_w]; rw [c11b0]) | skip)
      have H' := Aside0.mk H
      clear H
      go_wp2
      repeat (go_quiet (fail); try go_wp2)
      go_meet
      case rel => exact ⟨_, ((a0_0 == 72)), (by first | rfl | (simp; done) | (simp [*]; done)), H', ⟨by have := HJ2.out; first | omega | exact Nat.le_refl _⟩, ⟨by refine zzk ?_; exact BK118.out⟩, ⟨by repeat (first | (with_reducible first | exact HB.out | apply below_alloc | apply pw_below_drewN | apply below_drew1 | refine below_set ?_ GE118.out) | exact HB.out)⟩⟩
    case rest =>
     clear HC10
     try clear c1
     try clear p2
     try clear c6
     try clear c6b0
     try clear c6b1
     try clear c7
     try clear c11
     try clear c11b0
     try clear c11b1
     try clear hcz5_0 hcz5_1 hcz5_2 hcz5_3
     try clear hcz9_0 hcz9_1 hcz9_2 hcz9_3
     try clear hfz5_0 hfz5_1 hfz5_2 hfz5_3
     try clear hfz9_0 hfz9_1 hfz9_2 hfz9_3
     try clear p2
     obtain ⟨kq, x15_9, rfl, HA, HJ9, BK118, HB⟩ := hcut
     cases kq with
     | zero => exact absurd HA.out (by simp [inst_tells.j1])
     | succ kj9 =>
      have H := HA.out
      clear HA
      simp only [inst_tells.j1] at H
      by_cases c12 : x15_9 = true
      ·subst c12
       have H1 : ((word_Field.f kj9 a1 0 7).bind fun t120 => (if t120 = a0_1 then ((word_Field.f kj9 a1 12 3).bind fun t121 => (if t121 = a0_2 then ((word_Field.f kj9 a1 25 7).bind fun t122 => (some (t122 == a0_3))) else (some false))) else (some false))) = some r := by rw [if_pos rfl] at H; exact H
       clear H
       have H := H1
       clear H1
       replace H := Option.bind_eq_some_iff.mp H
       obtain ⟨t120, A130, H⟩ := H
       replace H : (if t120 = a0_1 then ((word_Field.f kj9 a1 12 3).bind fun t121 => (if t121 = a0_2 then ((word_Field.f kj9 a1 25 7).bind fun t122 => (some (t122 == a0_3))) else (some false))) else (some false)) = some r := H
       have A13 := Aside0.mk A130
       clear A130
       by_cases c14 : t120 = a0_1
       ·rw [if_pos c14] at H
        have c14b0 : (t120 == a0_1) = true := beq_iff_eq.mpr c14
        have c14b1 : (t120 != a0_1) = false := bne_eq_false_iff_eq.mpr c14
        clear c14
        replace H := Option.bind_eq_some_iff.mp H
        obtain ⟨t121, A150, H⟩ := H
        replace H : (if t121 = a0_2 then ((word_Field.f kj9 a1 25 7).bind fun t122 => (some (t122 == a0_3))) else (some false)) = some r := H
        have A15 := Aside0.mk A150
        clear A150
        by_cases c16 : t121 = a0_2
        ·rw [if_pos c16] at H
         have c16b0 : (t121 == a0_2) = true := beq_iff_eq.mpr c16
         have c16b1 : (t121 != a0_2) = false := bne_eq_false_iff_eq.mpr c16
         clear c16
         replace H := Option.bind_eq_some_iff.mp H
         obtain ⟨t122, A170, H⟩ := H
         replace H : (some (t122 == a0_3)) = some r := H
         have A17 := Aside0.mk A170
         clear A170
         obtain rfl := Option.some.inj H
         go_wp2_with (first | (go_at_call 78; (with_reducible refine (word_Field.calls kj9 a1 0 7 t120 _ A13.out).mono ?_); rintro e w' ⟨rfl, ⟨nd, rfl⟩⟩; (try first | exact ⟨rfl, _, World.drewN_drewN _ _ _⟩ | exact ⟨rfl, _, Eq.trans (World.drewN_drewN _ _ _) (congrArg (World.drewN _) (Nat.add_assoc _ _ _))⟩); obtain ⟨hcz18_0, hcz18_1, hcz18_2, hcz18_3⟩ := zzc4 BK118.out (.int .u8 a0_0) (.int .u32 a0_1) (.int .u32 a0_2) (.int .u32 a0_3); obtain ⟨hfz18_0, hfz18_1, hfz18_2, hfz18_3⟩ := zzf4 BK118.out) | (go_at_call 78; (with_reducible refine (word_Field.calls kj9 a1 12 3 t121 _ A15.out).mono ?_); rintro e w' ⟨rfl, ⟨nd, rfl⟩⟩; (try first | exact ⟨rfl, _, World.drewN_drewN _ _ _⟩ | exact ⟨rfl, _, Eq.trans (World.drewN_drewN _ _ _) (congrArg (World.drewN _) (Nat.add_assoc _ _ _))⟩)) | (go_at_call 78; (with_reducible refine (word_Field.calls kj9 a1 25 7 t122 _ A17.out).mono ?_); rintro e w' ⟨rfl, ⟨nd, rfl⟩⟩; (try first | exact ⟨rfl, _, World.drewN_drewN _ _ _⟩ | exact ⟨rfl, _, Eq.trans (World.drewN_drewN _ _ _) (congrArg (World.drewN _) (Nat.add_assoc _ _ _))⟩)))
         repeat (go_quiet (first | (go_at_call 78; (with_reducible refine (word_Field.calls kj9 a1 0 7 t120 _ A13.out).mono ?_); rintro e w' ⟨rfl, ⟨nd, rfl⟩⟩; (try first | exact ⟨rfl, _, World.drewN_drewN _ _ _⟩ | exact ⟨rfl, _, Eq.trans (World.drewN_drewN _ _ _) (congrArg (World.drewN _) (Nat.add_assoc _ _ _))⟩); obtain ⟨hcz18_0, hcz18_1, hcz18_2, hcz18_3⟩ := zzc4 BK118.out (.int .u8 a0_0) (.int .u32 a0_1) (.int .u32 a0_2) (.int .u32 a0_3); obtain ⟨hfz18_0, hfz18_1, hfz18_2, hfz18_3⟩ := zzf4 BK118.out) | (go_at_call 78; (with_reducible refine (word_Field.calls kj9 a1 12 3 t121 _ A15.out).mono ?_); rintro e w' ⟨rfl, ⟨nd, rfl⟩⟩; (try first | exact ⟨rfl, _, World.drewN_drewN _ _ _⟩ | exact ⟨rfl, _, Eq.trans (World.drewN_drewN _ _ _) (congrArg (World.drewN _) (Nat.add_assoc _ _ _))⟩)) | (go_at_call 78; (with_reducible refine (word_Field.calls kj9 a1 25 7 t122 _ A17.out).mono ?_); rintro e w' ⟨rfl, ⟨nd, rfl⟩⟩; (try first | exact ⟨rfl, _, World.drewN_drewN _ _ _⟩ | exact ⟨rfl, _, Eq.trans (World.drewN_drewN _ _ _) (congrArg (World.drewN _) (Nat.add_assoc _ _ _))⟩))); try go_wp2_with (first | (go_at_call 78; (with_reducible refine (word_Field.calls kj9 a1 0 7 t120 _ A13.out).mono ?_); rintro e w' ⟨rfl, ⟨nd, rfl⟩⟩; (try first | exact ⟨rfl, _, World.drewN_drewN _ _ _⟩ | exact ⟨rfl, _, Eq.trans (World.drewN_drewN _ _ _) (congrArg (World.drewN _) (Nat.add_assoc _ _ _))⟩); obtain ⟨hcz18_0, hcz18_1, hcz18_2, hcz18_3⟩ := zzc4 BK118.out (.int .u8 a0_0) (.int .u32 a0_1) (.int .u32 a0_2) (.int .u32 a0_3); obtain ⟨hfz18_0, hfz18_1, hfz18_2, hfz18_3⟩ := zzf4 BK118.out) | (go_at_call 78; (with_reducible refine (word_Field.calls kj9 a1 12 3 t121 _ A15.out).mono ?_); rintro e w' ⟨rfl, ⟨nd, rfl⟩⟩; (try first | exact ⟨rfl, _, World.drewN_drewN _ _ _⟩ | exact ⟨rfl, _, Eq.trans (World.drewN_drewN _ _ _) (congrArg (World.drewN _) (Nat.add_assoc _ _ _))⟩)) | (go_at_call 78; (with_reducible refine (word_Field.calls kj9 a1 25 7 t122 _ A17.out).mono ?_); rintro e w' ⟨rfl, ⟨nd, rfl⟩⟩; (try first | exact ⟨rfl, _, World.drewN_drewN _ _ _⟩ | exact ⟨rfl, _, Eq.trans (World.drewN_drewN _ _ _) (congrArg (World.drewN _) (Nat.add_assoc _ _ _))⟩))))
         go_ret
         exact ⟨by first | rfl | (simp [errW_none, errW_some] <;> rfl) | (simp [*, errW_none, errW_some] <;> rfl), by repeat (first | (with_reducible first | exact HB.out | apply below_alloc | apply pw_below_drewN | apply below_drew1 | refine below_set ?_ GE118.out) | exact HB.out)⟩
        ·rw [if_neg c16] at H
         have c16b0 : (t121 == a0_2) = false := beq_eq_false_iff_ne.mpr c16
         have c16b1 : (t121 != a0_2) = true := bne_iff_ne.mpr c16
         obtain rfl := Option.some.inj H
         go_wp2_with (first | (go_at_call 78; (with_reducible refine (word_Field.calls kj9 a1 0 7 t120 _ A13.out).mono ?_); rintro e w' ⟨rfl, ⟨nd, rfl⟩⟩; (try first | exact ⟨rfl, _, World.drewN_drewN _ _ _⟩ | exact ⟨rfl, _, Eq.trans (World.drewN_drewN _ _ _) (congrArg (World.drewN _) (Nat.add_assoc _ _ _))⟩); obtain ⟨hcz19_0, hcz19_1, hcz19_2, hcz19_3⟩ := zzc4 BK118.out (.int .u8 a0_0) (.int .u32 a0_1) (.int .u32 a0_2) (.int .u32 a0_3); obtain ⟨hfz19_0, hfz19_1, hfz19_2, hfz19_3⟩ := zzf4 BK118.out) | (go_at_call 78; (with_reducible refine (word_Field.calls kj9 a1 12 3 t121 _ A15.out).mono ?_); rintro e w' ⟨rfl, ⟨nd, rfl⟩⟩; (try first | exact ⟨rfl, _, World.drewN_drewN _ _ _⟩ | exact ⟨rfl, _, Eq.trans (World.drewN_drewN _ _ _) (congrArg (World.drewN _) (Nat.add_assoc _ _ _))⟩)))
         repeat (go_quiet (first | (go_at_call 78; (with_reducible refine (word_Field.calls kj9 a1 0 7 t120 _ A13.out).mono ?_); rintro e w' ⟨rfl, ⟨nd, rfl⟩⟩; (try first | exact ⟨rfl, _, World.drewN_drewN _ _ _⟩ | exact ⟨rfl, _, Eq.trans (World.drewN_drewN _ _ _) (congrArg (World.drewN _) (Nat.add_assoc _ _ _))⟩); obtain ⟨hcz19_0, hcz19_1, hcz19_2, hcz19_3⟩ := zzc4 BK118.out (.int .u8 a0_0) (.int .u32 a0_1) (.int .u32 a0_2) (.int .u32 a0_3); obtain ⟨hfz19_0, hfz19_1, hfz19_2, hfz19_3⟩ := zzf4 BK118.out) | (go_at_call 78; (with_reducible refine (word_Field.calls kj9 a1 12 3 t121 _ A15.out).mono ?_); rintro e w' ⟨rfl, ⟨nd, rfl⟩⟩; (try first | exact ⟨rfl, _, World.drewN_drewN _ _ _⟩ | exact ⟨rfl, _, Eq.trans (World.drewN_drewN _ _ _) (congrArg (World.drewN _) (Nat.add_assoc _ _ _))⟩))); try go_wp2_with (first | (go_at_call 78; (with_reducible refine (word_Field.calls kj9 a1 0 7 t120 _ A13.out).mono ?_); rintro e w' ⟨rfl, ⟨nd, rfl⟩⟩; (try first | exact ⟨rfl, _, World.drewN_drewN _ _ _⟩ | exact ⟨rfl, _, Eq.trans (World.drewN_drewN _ _ _) (congrArg (World.drewN _) (Nat.add_assoc _ _ _))⟩); obtain ⟨hcz19_0, hcz19_1, hcz19_2, hcz19_3⟩ := zzc4 BK118.out (.int .u8 a0_0) (.int .u32 a0_1) (.int .u32 a0_2) (.int .u32 a0_3); obtain ⟨hfz19_0, hfz19_1, hfz19_2, hfz19_3⟩ := zzf4 BK118.out) | (go_at_call 78; (with_reducible refine (word_Field.calls kj9 a1 12 3 t121 _ A15.out).mono ?_); rintro e w' ⟨rfl, ⟨nd, rfl⟩⟩; (try first | exact ⟨rfl, _, World.drewN_drewN _ _ _⟩ | exact ⟨rfl, _, Eq.trans (World.drewN_drewN _ _ _) (congrArg (World.drewN _) (Nat.add_assoc _ _ _))⟩))))
         go_ret
         exact ⟨by first | rfl | (simp [errW_none, errW_some] <;> rfl) | (simp [*, errW_none, errW_some] <;> rfl), by repeat (first | (with_reducible first | exact HB.out | apply below_alloc | apply pw_below_drewN | apply below_drew1 | refine below_set ?_ GE118.out) | exact HB.out)⟩
       ·rw [if_neg c14] at H
        have c14b0 : (t120 == a0_1) = false := beq_eq_false_iff_ne.mpr c14
        have c14b1 : (t120 != a0_1) = true := bne_iff_ne.mpr c14
        obtain rfl := Option.some.inj H
        go_wp2_with (first | (go_at_call 78; (with_reducible refine (word_Field.calls kj9 a1 0 7 t120 _ A13.out).mono ?_); rintro e w' ⟨rfl, ⟨nd, rfl⟩⟩; (try first | exact ⟨rfl, _, World.drewN_drewN _ _ _⟩ | exact ⟨rfl, _, Eq.trans (World.drewN_drewN _ _ _) (congrArg (World.drewN _) (Nat.add_assoc _ _ _))⟩); obtain ⟨hcz20_0, hcz20_1, hcz20_2, hcz20_3⟩ := zzc4 BK118.out (.int .u8 a0_0) (.int .u32 a0_1) (.int .u32 a0_2) (.int .u32 a0_3); obtain ⟨hfz20_0, hfz20_1, hfz20_2, hfz20_3⟩ := zzf4 BK118.out))
        repeat (go_quiet (first | (go_at_call 78; (with_reducible refine (word_Field.calls kj9 a1 0 7 t120 _ A13.out).mono ?_); rintro e w' ⟨rfl, ⟨nd, rfl⟩⟩; (try first | exact ⟨rfl, _, World.drewN_drewN _ _ _⟩ | exact ⟨rfl, _, Eq.trans (World.drewN_drewN _ _ _) (congrArg (World.drewN _) (Nat.add_assoc _ _ _))⟩); obtain ⟨hcz20_0, hcz20_1, hcz20_2, hcz20_3⟩ := zzc4 BK118.out (.int .u8 a0_0) (.int .u32 a0_1) (.int .u32 a0_2) (.int .u32 a0_3); obtain ⟨hfz20_0, hfz20_1, hfz20_2, hfz20_3⟩ := zzf4 BK118.out)); try go_wp2_with (first | (go_at_call 78; (with_reducible refine (word_Field.calls kj9 a1 0 7 t120 _ A13.out).mono ?_); rintro e w' ⟨rfl, ⟨nd, rfl⟩⟩; (try first | exact ⟨rfl, _, World.drewN_drewN _ _ _⟩ | exact ⟨rfl, _, Eq.trans (World.drewN_drewN _ _ _) (congrArg (World.drewN _) (Nat.add_assoc _ _ _))⟩); obtain ⟨hcz20_0, hcz20_1, hcz20_2, hcz20_3⟩ := zzc4 BK118.out (.int .u8 a0_0) (.int .u32 a0_1) (.int .u32 a0_2) (.int .u32 a0_3); obtain ⟨hfz20_0, hfz20_1, hfz20_2, hfz20_3⟩ := zzf4 BK118.out)))
        go_ret
        exact ⟨by first | rfl | (simp [errW_none, errW_some] <;> rfl) | (simp [*, errW_none, errW_some] <;> rfl), by repeat (first | (with_reducible first | exact HB.out | apply below_alloc | apply pw_below_drewN | apply below_drew1 | refine below_set ?_ GE118.out) | exact HB.out)⟩
      ·replace c12 := Bool.eq_false_iff.mpr c12
       subst c12
       have H1 : (if a0_0 = 73 then (inst_tells.j2 kj9 a1 (a0_0 == 73) a0_0 a0_1 a0_2 a0_3) else (if a0_0 = 83 then (inst_tells.j2 kj9 a1 (a0_0 == 83) a0_0 a0_1 a0_2 a0_3) else (inst_tells.j2 kj9 a1 (a0_0 == 66) a0_0 a0_1 a0_2 a0_3))) = some r := by rw [if_neg (show ¬ (false = true) by decide)] at H; exact H
       clear H
       have H := H1
       clear H1
       have HC21 := Aside0.mk H
       clear H
       go_upto_if 37 with (fail)
       repeat (go_quiet (fail); go_upto_if 37 with (fail))
       go_cut [37] (fun v37 wc => ∃ (kq : Nat) (x37_20 : Bool), v37 = .bool x37_20 ∧ Aside0 (inst_tells.j2 kq a1 x37_20 a0_0 a0_1 a0_2 a0_3 = some r) ∧ Aside0 (kq ≤ kj9) ∧ Aside0 (wc.heap[gb118]? = some (.cells #[.int .u8 a0_0, .int .u32 a0_1, .int .u32 a0_2, .int .u32 a0_3] 74 (0, 0))) ∧ Aside0 (Below w.heap.size w wc))
       case first =>
        have H := HC21.out
        clear HC21
        by_cases c22 : a0_0 = 73
        ·rw [if_pos c22] at H
         have c22b0 : (a0_0 == 73) = true := beq_iff_eq.mpr c22
         have c22b1 : (a0_0 != 73) = false := bne_eq_false_iff_eq.mpr c22
         clear c22
         (first | rw [c22b0] | (simp only [i64_w, i32_w]; rw [c22b0]) | skip)
         have H' := Aside0.mk H
         clear H
         go_wp2
         repeat (go_quiet (fail); try go_wp2)
         go_meet
         case rel => exact ⟨_, ((a0_0 == 73)), (by first | rfl | (simp; done) | (simp [*]; done)), H', ⟨by have := HJ2.out; have := HJ9.out; first | omega | exact Nat.le_refl _⟩, ⟨by refine zzk ?_; exact BK118.out⟩, ⟨by repeat (first | (with_reducible first | exact HB.out | apply below_alloc | apply pw_below_drewN | apply below_drew1 | refine below_set ?_ GE118.out) | exact HB.out)⟩⟩
        ·rw [if_neg c22] at H
         have c22b0 : (a0_0 == 73) = false := beq_eq_false_iff_ne.mpr c22
         have c22b1 : (a0_0 != 73) = true := bne_iff_ne.mpr c22
         (first | rw [c22b0] | (simp only [i64_w, i32_w]; rw [c22b0]) | skip)
         by_cases c23 : a0_0 = 83
         ·rw [if_pos c23] at H
          have c23b0 : (a0_0 == 83) = true := beq_iff_eq.mpr c23
          have c23b1 : (a0_0 != 83) = false := bne_eq_false_iff_eq.mpr c23
          clear c23
          have H' := Aside0.mk H
          clear H
          go_wp2
          repeat (go_quiet (fail); try go_wp2)
          go_meet
          case rel => exact ⟨_, ((a0_0 == 83)), (by first | rfl | (simp; done) | (simp [*]; done)), H', ⟨by have := HJ2.out; have := HJ9.out; first | omega | exact Nat.le_refl _⟩, ⟨by refine zzk ?_; exact BK118.out⟩, ⟨by repeat (first | (with_reducible first | exact HB.out | apply below_alloc | apply pw_below_drewN | apply below_drew1 | refine below_set ?_ GE118.out) | exact HB.out)⟩⟩
         ·rw [if_neg c23] at H
          have c23b0 : (a0_0 == 83) = false := beq_eq_false_iff_ne.mpr c23
          have c23b1 : (a0_0 != 83) = true := bne_iff_ne.mpr c23
          have H' := Aside0.mk H
          clear H
          go_wp2
          repeat (go_quiet (fail); try go_wp2)
          go_meet
          case rel => exact ⟨_, ((a0_0 == 66)), (by first | rfl | (simp; done) | (simp [*]; done)), H', ⟨by have := HJ2.out; have := HJ9.out; first | omega | exact Nat.le_refl _⟩, ⟨by refine zzk ?_; exact BK118.out⟩, ⟨by repeat (first | (with_reducible first | exact HB.out | apply below_alloc | apply pw_below_drewN | apply below_drew1 | refine below_set ?_ GE118.out) | exact HB.out)⟩⟩
       case rest =>
        clear HC21
        try clear c1
        try clear c2
        try clear p2
        try clear c6
        try clear c6b0
        try clear c6b1
        try clear c7
        try clear c11
        try clear c11b0
        try clear c11b1
        try clear c12
        try clear c14
        try clear c14b0
        try clear c14b1
        try clear c16
        try clear c16b0
        try clear c16b1
        try clear c22
        try clear c22b0
        try clear c22b1
        try clear c23
        try clear c23b0
        try clear c23b1
        try clear hcz18_0 hcz18_1 hcz18_2 hcz18_3
        try clear hcz19_0 hcz19_1 hcz19_2 hcz19_3
        try clear hcz20_0 hcz20_1 hcz20_2 hcz20_3
        try clear hcz5_0 hcz5_1 hcz5_2 hcz5_3
        try clear hcz9_0 hcz9_1 hcz9_2 hcz9_3
        try clear hfz18_0 hfz18_1 hfz18_2 hfz18_3
        try clear hfz19_0 hfz19_1 hfz19_2 hfz19_3
        try clear hfz20_0 hfz20_1 hfz20_2 hfz20_3
        try clear hfz5_0 hfz5_1 hfz5_2 hfz5_3
        try clear hfz9_0 hfz9_1 hfz9_2 hfz9_3
        try clear p2
        obtain ⟨kq, x37_20, rfl, HA, HJ20, BK118, HB⟩ := hcut
        cases kq with
        | zero => exact absurd HA.out (by simp [inst_tells.j2])
        | succ kj20 =>
         have H := HA.out
         clear HA
         simp only [inst_tells.j2] at H
         by_cases c24 : x37_20 = true
         ·subst c24
          have H1 : ((word_Field.f kj20 a1 0 7).bind fun t123 => (if t123 = a0_1 then ((word_Field.f kj20 a1 12 3).bind fun t124 => (some (t124 == a0_2))) else (some false))) = some r := by rw [if_pos rfl] at H; exact H
          clear H
          have H := H1
          clear H1
          replace H := Option.bind_eq_some_iff.mp H
          obtain ⟨t123, A250, H⟩ := H
          replace H : (if t123 = a0_1 then ((word_Field.f kj20 a1 12 3).bind fun t124 => (some (t124 == a0_2))) else (some false)) = some r := H
          have A25 := Aside0.mk A250
          clear A250
          by_cases c26 : t123 = a0_1
          ·rw [if_pos c26] at H
           have c26b0 : (t123 == a0_1) = true := beq_iff_eq.mpr c26
           have c26b1 : (t123 != a0_1) = false := bne_eq_false_iff_eq.mpr c26
           clear c26
           replace H := Option.bind_eq_some_iff.mp H
           obtain ⟨t124, A270, H⟩ := H
           replace H : (some (t124 == a0_2)) = some r := H
           have A27 := Aside0.mk A270
           clear A270
           obtain rfl := Option.some.inj H
           go_wp2_with (first | (go_at_call 78; (with_reducible refine (word_Field.calls kj20 a1 0 7 t123 _ A25.out).mono ?_); rintro e w' ⟨rfl, ⟨nd, rfl⟩⟩; (try first | exact ⟨rfl, _, World.drewN_drewN _ _ _⟩ | exact ⟨rfl, _, Eq.trans (World.drewN_drewN _ _ _) (congrArg (World.drewN _) (Nat.add_assoc _ _ _))⟩); obtain ⟨hcz28_0, hcz28_1, hcz28_2, hcz28_3⟩ := zzc4 BK118.out (.int .u8 a0_0) (.int .u32 a0_1) (.int .u32 a0_2) (.int .u32 a0_3); obtain ⟨hfz28_0, hfz28_1, hfz28_2, hfz28_3⟩ := zzf4 BK118.out) | (go_at_call 78; (with_reducible refine (word_Field.calls kj20 a1 12 3 t124 _ A27.out).mono ?_); rintro e w' ⟨rfl, ⟨nd, rfl⟩⟩; (try first | exact ⟨rfl, _, World.drewN_drewN _ _ _⟩ | exact ⟨rfl, _, Eq.trans (World.drewN_drewN _ _ _) (congrArg (World.drewN _) (Nat.add_assoc _ _ _))⟩)))
           repeat (go_quiet (first | (go_at_call 78; (with_reducible refine (word_Field.calls kj20 a1 0 7 t123 _ A25.out).mono ?_); rintro e w' ⟨rfl, ⟨nd, rfl⟩⟩; (try first | exact ⟨rfl, _, World.drewN_drewN _ _ _⟩ | exact ⟨rfl, _, Eq.trans (World.drewN_drewN _ _ _) (congrArg (World.drewN _) (Nat.add_assoc _ _ _))⟩); obtain ⟨hcz28_0, hcz28_1, hcz28_2, hcz28_3⟩ := zzc4 BK118.out (.int .u8 a0_0) (.int .u32 a0_1) (.int .u32 a0_2) (.int .u32 a0_3); obtain ⟨hfz28_0, hfz28_1, hfz28_2, hfz28_3⟩ := zzf4 BK118.out) | (go_at_call 78; (with_reducible refine (word_Field.calls kj20 a1 12 3 t124 _ A27.out).mono ?_); rintro e w' ⟨rfl, ⟨nd, rfl⟩⟩; (try first | exact ⟨rfl, _, World.drewN_drewN _ _ _⟩ | exact ⟨rfl, _, Eq.trans (World.drewN_drewN _ _ _) (congrArg (World.drewN _) (Nat.add_assoc _ _ _))⟩))); try go_wp2_with (first | (go_at_call 78; (with_reducible refine (word_Field.calls kj20 a1 0 7 t123 _ A25.out).mono ?_); rintro e w' ⟨rfl, ⟨nd, rfl⟩⟩; (try first | exact ⟨rfl, _, World.drewN_drewN _ _ _⟩ | exact ⟨rfl, _, Eq.trans (World.drewN_drewN _ _ _) (congrArg (World.drewN _) (Nat.add_assoc _ _ _))⟩); obtain ⟨hcz28_0, hcz28_1, hcz28_2, hcz28_3⟩ := zzc4 BK118.out (.int .u8 a0_0) (.int .u32 a0_1) (.int .u32 a0_2) (.int .u32 a0_3); obtain ⟨hfz28_0, hfz28_1, hfz28_2, hfz28_3⟩ := zzf4 BK118.out) | (go_at_call 78; (with_reducible refine (word_Field.calls kj20 a1 12 3 t124 _ A27.out).mono ?_); rintro e w' ⟨rfl, ⟨nd, rfl⟩⟩; (try first | exact ⟨rfl, _, World.drewN_drewN _ _ _⟩ | exact ⟨rfl, _, Eq.trans (World.drewN_drewN _ _ _) (congrArg (World.drewN _) (Nat.add_assoc _ _ _))⟩))))
           go_ret
           exact ⟨by first | rfl | (simp [errW_none, errW_some] <;> rfl) | (simp [*, errW_none, errW_some] <;> rfl), by repeat (first | (with_reducible first | exact HB.out | apply below_alloc | apply pw_below_drewN | apply below_drew1 | refine below_set ?_ GE118.out) | exact HB.out)⟩
          ·rw [if_neg c26] at H
           have c26b0 : (t123 == a0_1) = false := beq_eq_false_iff_ne.mpr c26
           have c26b1 : (t123 != a0_1) = true := bne_iff_ne.mpr c26
           obtain rfl := Option.some.inj H
           go_wp2_with (first | (go_at_call 78; (with_reducible refine (word_Field.calls kj20 a1 0 7 t123 _ A25.out).mono ?_); rintro e w' ⟨rfl, ⟨nd, rfl⟩⟩; (try first | exact ⟨rfl, _, World.drewN_drewN _ _ _⟩ | exact ⟨rfl, _, Eq.trans (World.drewN_drewN _ _ _) (congrArg (World.drewN _) (Nat.add_assoc _ _ _))⟩); obtain ⟨hcz29_0, hcz29_1, hcz29_2, hcz29_3⟩ := zzc4 BK118.out (.int .u8 a0_0) (.int .u32 a0_1) (.int .u32 a0_2) (.int .u32 a0_3); obtain ⟨hfz29_0, hfz29_1, hfz29_2, hfz29_3⟩ := zzf4 BK118.out))
           repeat (go_quiet (first | (go_at_call 78; (with_reducible refine (word_Field.calls kj20 a1 0 7 t123 _ A25.out).mono ?_); rintro e w' ⟨rfl, ⟨nd, rfl⟩⟩; (try first | exact ⟨rfl, _, World.drewN_drewN _ _ _⟩ | exact ⟨rfl, _, Eq.trans (World.drewN_drewN _ _ _) (congrArg (World.drewN _) (Nat.add_assoc _ _ _))⟩); obtain ⟨hcz29_0, hcz29_1, hcz29_2, hcz29_3⟩ := zzc4 BK118.out (.int .u8 a0_0) (.int .u32 a0_1) (.int .u32 a0_2) (.int .u32 a0_3); obtain ⟨hfz29_0, hfz29_1, hfz29_2, hfz29_3⟩ := zzf4 BK118.out)); try go_wp2_with (first | (go_at_call 78; (with_reducible refine (word_Field.calls kj20 a1 0 7 t123 _ A25.out).mono ?_); rintro e w' ⟨rfl, ⟨nd, rfl⟩⟩; (try first | exact ⟨rfl, _, World.drewN_drewN _ _ _⟩ | exact ⟨rfl, _, Eq.trans (World.drewN_drewN _ _ _) (congrArg (World.drewN _) (Nat.add_assoc _ _ _))⟩); obtain ⟨hcz29_0, hcz29_1, hcz29_2, hcz29_3⟩ := zzc4 BK118.out (.int .u8 a0_0) (.int .u32 a0_1) (.int .u32 a0_2) (.int .u32 a0_3); obtain ⟨hfz29_0, hfz29_1, hfz29_2, hfz29_3⟩ := zzf4 BK118.out)))
           go_ret
           exact ⟨by first | rfl | (simp [errW_none, errW_some] <;> rfl) | (simp [*, errW_none, errW_some] <;> rfl), by repeat (first | (with_reducible first | exact HB.out | apply below_alloc | apply pw_below_drewN | apply below_drew1 | refine below_set ?_ GE118.out) | exact HB.out)⟩
         ·replace c24 := Bool.eq_false_iff.mpr c24
          subst c24
          have H1 : (some false) = some r := by rw [if_neg (show ¬ (false = true) by decide)] at H; exact H
          clear H
          have H := H1
          clear H1
          obtain rfl := Option.some.inj H
          go_wp2
          repeat (go_quiet (fail); try go_wp2)
          go_ret
          exact ⟨by first | rfl | (simp [errW_none, errW_some] <;> rfl) | (simp [*, errW_none, errW_some] <;> rfl), by repeat (first | (with_reducible first | exact HB.out | apply below_alloc | apply pw_below_drewN | apply below_drew1 | refine below_set ?_ GE118.out) | exact HB.out)⟩
end Go.Proofs.Ytekenddkoahjgaa.Q
