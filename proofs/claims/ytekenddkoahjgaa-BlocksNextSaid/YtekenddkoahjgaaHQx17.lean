import Derived.Test.YtekenddkoahjgaaHZc
import Derived.Test.YtekenddkoahjgaaHQx5
import Derived.Test.YtekenddkoahjgaaHQx14
import Derived.Test.YtekenddkoahjgaaHQx16
namespace Go.Proofs.Ytekenddkoahjgaa.Q
open Go.RowKit Go.Proofs.YtekenddkoahjgaaW.PrintWords Go.Proofs.YtekenddkoahjgaaW.PrintLast Go.Proofs.YtekenddkoahjgaaW.PrintMore
attribute [local go_sem] max2_int min2_int max_two min_two max_three min_three max_four min_four
attribute [local go_sem] imax_u32 imax_u8 isg_u32 isg_u8
set_option linter.unusedVariables false
set_option linter.unusedSimpArgs false
theorem strengthen_ {P : Program} {ops : Array Oper} {Q : Exit → Act → World → Prop} {md : Region.Mode} {S S' : World → Prop} (hs : ∀ w, S' w → S w) : ∀ {fuel : Nat} {l : Array Bool} {a : Act} {w : World}, S' w → wpAnyLast P md ops Q S' [] fuel l a w → wpAnyLast P md ops Q S [] fuel l a w
 | 0, _, _, _, _, h => h
 | fuel + 1, l, a, w, hw, h => ⟨h.1, fun i hi => wpOp_mono (fun a' w' h' => ⟨fun _ _ => hs w' (h'.1 (by simp) hw), strengthen_ hs (h'.1 (by simp) hw) h'.2⟩) (h.2 i hi)⟩
def r02_Encode.l0 : Nat → Int → List Int → Int → Int → Int → Int → Int → Int → Option (Int × Int)
 | 0, _, _, _, _, _, _, _, _ => none
 | k + 1, x4, x5, x6, x186000, x186001, x186002, x186003, x186004 => if x6 < (x5.length : Int) then (if 0 ≤ x6 then (if (rd x5 x6) ≥ 0 then ((r01_Bit.f ((x186004) % 4294967296) x6).bind fun t204 => (if t204 = 1 then (if 0 ≤ (rd x5 x6) then (r02_Encode.l0 k (Go.bits .or .u32 x4 (shl .u32 1 (rd x5 x6))) x5 (wrap64 (x6 + 1)) x186000 x186001 x186002 x186003 x186004) else (none)) else (r02_Encode.l0 k x4 x5 (wrap64 (x6 + 1)) x186000 x186001 x186002 x186003 x186004))) else (r02_Encode.l0 k x4 x5 (wrap64 (x6 + 1)) x186000 x186001 x186002 x186003 x186004)) else (none)) else (some (x4, 0))
def r02_Encode.f (k : Nat) (a0_0 : Int) (a0_1 : Int) (a0_2 : Int) (a0_3 : Int) (a0_4 : Int) : Option (Int × Int) := (r02_Right.f k a0_0 a0_1 a0_2 a0_3 a0_4).bind fun t186 => (if t186 = true then (if a0_0 = 45 then (some (115, 0)) else (if a0_0 = 46 then (some (1048691, 0)) else ((r02_ops.f).bind fun t187 => (if 0 ≤ a0_0 then (if a0_0 < (t187.length : Int) then ((r02_f3.f).bind fun t191 => (if a0_0 < (t191.length : Int) then ((r02_f7.f).bind fun t195 => (if a0_0 < (t195.length : Int) then ((r02_Form.f a0_0).bind fun t199 => ((r02_places.f t199).bind fun t200 => (r02_Encode.l0 k (((((((rd t187 a0_0) + ((rd t191 a0_0) * 4096)) + ((rd t195 a0_0) * 33554432)) + (((a0_1) % 4294967296) * 128)) + (((a0_2) % 4294967296) * 32768)) + (((a0_3) % 4294967296) * 1048576)) % 4294967296) t200 0 a0_0 a0_1 a0_2 a0_3 a0_4))) else (none))) else (none))) else (none)) else (none))))) else (some (0, 20)))
theorem r02_Encode.mono_l : ∀ k, (∀ y0 y1 y2 y3 y4 y5 y6 y7, LeO (r02_Encode.l0 k y0 y1 y2 y3 y4 y5 y6 y7) (r02_Encode.l0 (k + 1) y0 y1 y2 y3 y4 y5 y6 y7))
 | 0 => fun _ _ _ _ _ _ _ _ r h => by simp [r02_Encode.l0] at h
 | k + 1 => by
  have ih0 := r02_Encode.mono_l k
  ·intro y0 y1 y2 y3 y4 y5 y6 y7
   unfold r02_Encode.l0
   repeat' first
   | (with_reducible exact ih0 _ _ _ _ _ _ _ _)
   | (with_reducible exact r02_Right.mono _ _ _ _ _ _)
   | (with_reducible exact LeO.refl _)
   | (with_reducible exact LeO.none _)
   | (with_reducible refine LeO.ite ?_ ?_)
   | (with_reducible refine LeO.bind ?_ (fun _ => ?_))
   | exact ih0 _ _ _ _ _ _ _ _
   | exact r02_Right.mono _ _ _ _ _ _
   | exact LeO.none _
   | refine LeO.ite ?_ ?_
   | refine LeO.bind ?_ (fun _ => ?_)
theorem r02_Encode.mono : ∀ a0 a1 a2 a3 a4 k, LeO (r02_Encode.f k a0 a1 a2 a3 a4) (r02_Encode.f (k + 1) a0 a1 a2 a3 a4) := by
 intro a0 a1 a2 a3 a4 k
 have ih0 := r02_Encode.mono_l k
 unfold r02_Encode.f
 repeat' first
   | (with_reducible exact ih0 _ _ _ _ _ _ _ _)
   | (with_reducible exact r02_Right.mono _ _ _ _ _ _)
   | (with_reducible exact LeO.refl _)
   | (with_reducible exact LeO.none _)
   | (with_reducible refine LeO.ite ?_ ?_)
   | (with_reducible refine LeO.bind ?_ (fun _ => ?_))
   | exact ih0 _ _ _ _ _ _ _ _
   | exact r02_Right.mono _ _ _ _ _ _
   | exact LeO.none _
   | refine LeO.ite ?_ ?_
   | refine LeO.bind ?_ (fun _ => ?_)
def r02_Encode.T7 : Bool × List (List Nat × List Nat) := (true, [([], []), ([], []), ([1], [1]), ([0, 2], [0, 2]), ([3], [3]), ([0], []), ([], []), ([6], [6]), ([5, 7], [5, 7]), ([8], [8]), ([9], [9]), ([4, 10], [4, 10]), ([5], []), ([], []), ([13], [13]), ([12, 14], [12, 14]), ([15], [15]), ([16], [16]), ([11, 17], [11, 17]), ([], []), ([19], [19]), ([20], [20]), ([21], [21]), ([18, 22], [18, 22]), ([], []), ([24], [24]), ([25], [25]), ([26], [26]), ([23, 27], [23, 27]), ([], []), ([29], [29]), ([30], [30]), ([31], [31]), ([28, 32], [28, 32]), ([33, 12, 0, 1, 2, 3, 4, 5, 6, 7, 8, 9, 10, 11, 12, 13, 14, 15, 16, 17, 18, 19, 20, 21, 22, 23, 24, 25, 26, 27, 28, 29, 30, 31, 32, 33], [33])])
def r02_Encode.B7 : List Nat := [0, 0, 2, 7, 15, 1, 0, 64, 225, 481, 993, 2047, 33, 0, 8192, 28705, 61473, 127009, 262143, 0, 524288, 1572864, 3670016, 8388607, 0, 16777216, 50331648, 117440512, 268435455, 0, 536870912, 1610612736, 3758096384, 8589934591, 17179869183]
theorem r02_Encode.tab7 : rtab .any (opsOf Try.f63 7) = r02_Encode.T7 := by kernel_rfl
theorem r02_Encode.bits7 : waitsOk r02_Encode.T7.2 r02_Encode.B7 = true := by kernel_rfl
set_option maxHeartbeats 8000000 in
set_option maxRecDepth 100000 in
theorem r02_Encode.calls (k : Nat) (a0_0 : Int) (a0_1 : Int) (a0_2 : Int) (a0_3 : Int) (a0_4 : Int) (r1 : Int) (r2 : Int) (w : World) (h : r02_Encode.f k a0_0 a0_1 a0_2 a0_3 a0_4 = some (r1, r2)) :
  Calls Try.prog 63 #[.agg #[.int .i64 a0_0, .int .i64 a0_1, .int .i64 a0_2, .int .i64 a0_3, .int .i64 a0_4]] w fun e w' => e = .returned (.tuple #[.int .u32 r1, .int .i64 r2]) ∧ Below w.heap.size w w' := by
 have hu23 := Try.underlying23
 have HB := zz (Below.refl w.heap.size w)
 have H : ((r02_Right.f k a0_0 a0_1 a0_2 a0_3 a0_4).bind fun t186 => (if t186 = true then (if a0_0 = 45 then (some (115, 0)) else (if a0_0 = 46 then (some (1048691, 0)) else ((r02_ops.f).bind fun t187 => (if 0 ≤ a0_0 then (if a0_0 < (t187.length : Int) then ((r02_f3.f).bind fun t191 => (if a0_0 < (t191.length : Int) then ((r02_f7.f).bind fun t195 => (if a0_0 < (t195.length : Int) then ((r02_Form.f a0_0).bind fun t199 => ((r02_places.f t199).bind fun t200 => (r02_Encode.l0 k (((((((rd t187 a0_0) + ((rd t191 a0_0) * 4096)) + ((rd t195 a0_0) * 33554432)) + (((a0_1) % 4294967296) * 128)) + (((a0_2) % 4294967296) * 32768)) + (((a0_3) % 4294967296) * 1048576)) % 4294967296) t200 0 a0_0 a0_1 a0_2 a0_3 a0_4))) else (none))) else (none))) else (none)) else (none))))) else (some (0, 20)))) = some (r1, r2) := h
 clear h
 replace H := Option.bind_eq_some_iff.mp H
 obtain ⟨t186, A20, H⟩ := H
 replace H : (if t186 = true then (if a0_0 = 45 then (some (115, 0)) else (if a0_0 = 46 then (some (1048691, 0)) else ((r02_ops.f).bind fun t187 => (if 0 ≤ a0_0 then (if a0_0 < (t187.length : Int) then ((r02_f3.f).bind fun t191 => (if a0_0 < (t191.length : Int) then ((r02_f7.f).bind fun t195 => (if a0_0 < (t195.length : Int) then ((r02_Form.f a0_0).bind fun t199 => ((r02_places.f t199).bind fun t200 => (r02_Encode.l0 k (((((((rd t187 a0_0) + ((rd t191 a0_0) * 4096)) + ((rd t195 a0_0) * 33554432)) + (((a0_1) % 4294967296) * 128)) + (((a0_2) % 4294967296) * 32768)) + (((a0_3) % 4294967296) * 1048576)) % 4294967296) t200 0 a0_0 a0_1 a0_2 a0_3 a0_4))) else (none))) else (none))) else (none)) else (none))))) else (some (0, 20))) = some (r1, r2) := H
 have A2 := zz A20
 clear A20
 by_cases c3 : t186 = true
 ·subst c3
  have H1 : (if a0_0 = 45 then (some (115, 0)) else (if a0_0 = 46 then (some (1048691, 0)) else ((r02_ops.f).bind fun t187 => (if 0 ≤ a0_0 then (if a0_0 < (t187.length : Int) then ((r02_f3.f).bind fun t191 => (if a0_0 < (t191.length : Int) then ((r02_f7.f).bind fun t195 => (if a0_0 < (t195.length : Int) then ((r02_Form.f a0_0).bind fun t199 => ((r02_places.f t199).bind fun t200 => (r02_Encode.l0 k (((((((rd t187 a0_0) + ((rd t191 a0_0) * 4096)) + ((rd t195 a0_0) * 33554432)) + (((a0_1) % 4294967296) * 128)) + (((a0_2) % 4294967296) * 32768)) + (((a0_3) % 4294967296) * 1048576)) % 4294967296) t200 0 a0_0 a0_1 a0_2 a0_3 a0_4))) else (none))) else (none))) else (none)) else (none))))) = some (r1, r2) := by rw [if_pos rfl] at H; exact H
  clear H
  have H := H1
  clear H1
  by_cases c4 : a0_0 = 45
  ·rw [if_pos c4] at H
   have c4b0 : (a0_0 == 45) = true := beq_iff_eq.mpr c4
   have c4b1 : (a0_0 != 45) = false := bne_eq_false_iff_eq.mpr c4
   clear c4
   simp only [Option.some.injEq, Prod.mk.injEq] at H
   obtain ⟨rfl, rfl⟩ := H
   go_enter Try.func63, Try.ntmps63
   go_wp2_with (first | ((with_reducible refine gate_dst (N := 1) rfl ?_); refine box_event ?hg (N := 1) ?hd (cs := #[.int .i64 a0_0, .int .i64 a0_1, .int .i64 a0_2, .int .i64 a0_3, .int .i64 a0_4]) (t := 23) ?hr ?_; (case hd => rfl); (case hg => rfl); (case hr => first | (go_simp; done) | (go_simp; rfl)); intro gb185 hg w5 hbox hb; have n0_ := zz (below_step zzb hb); have n1_ := zz (hbox); have n2_ := zz ((zzn hg : w.heap.size ≤ gb185)); have n3_ := zz ((zzn hg : w.heap.size ≤ gb185)); clear HB; have HB := n0_; have BK185 := n1_; have GW185 := n2_; have GE185 := n3_; clear n0_ n1_ n2_ n3_; clear hb hbox hg; obtain ⟨hcz6_0, hcz6_1, hcz6_2, hcz6_3, hcz6_4⟩ := zzc5 BK185.out (.int .i64 a0_0) (.int .i64 a0_1) (.int .i64 a0_2) (.int .i64 a0_3) (.int .i64 a0_4); obtain ⟨hfz6_0, hfz6_1, hfz6_2, hfz6_3, hfz6_4⟩ := zzf5 BK185.out) | ((with_reducible refine gate_callee (f := 30) rfl ?_); refine goesL_ (some 8) rfl rfl Try.func30 (by kernel_rfl) rfl #[.agg #[.int .i64 a0_0, .int .i64 a0_1, .int .i64 a0_2, .int .i64 a0_3, .int .i64 a0_4]] rfl zza ?_; (with_reducible refine (r02_Right.calls k a0_0 a0_1 a0_2 a0_3 a0_4 true _ A2.out).mono ?_); rintro e w7 ⟨rfl, hb⟩; refine ⟨_, rfl, ?_⟩; have n0_ := zz (zzkb BK185.out hb); have n1_ := zz (below_step zzg hb); clear BK185; clear HB; have BK185 := n0_; have HB := n1_; clear n0_ n1_; (try clear hb); (try clear hb2); (try clear hk); (try clear hi); obtain ⟨hcz8_0, hcz8_1, hcz8_2, hcz8_3, hcz8_4⟩ := zzc5 BK185.out (.int .i64 a0_0) (.int .i64 a0_1) (.int .i64 a0_2) (.int .i64 a0_3) (.int .i64 a0_4); obtain ⟨hfz8_0, hfz8_1, hfz8_2, hfz8_3, hfz8_4⟩ := zzf5 BK185.out))
   go_ret2
   exact ⟨zze, zzg⟩
  ·rw [if_neg c4] at H
   have c4b0 : (a0_0 == 45) = false := beq_eq_false_iff_ne.mpr c4
   have c4b1 : (a0_0 != 45) = true := bne_iff_ne.mpr c4
   by_cases c9 : a0_0 = 46
   ·rw [if_pos c9] at H
    have c9b0 : (a0_0 == 46) = true := beq_iff_eq.mpr c9
    have c9b1 : (a0_0 != 46) = false := bne_eq_false_iff_eq.mpr c9
    clear c9
    simp only [Option.some.injEq, Prod.mk.injEq] at H
    obtain ⟨rfl, rfl⟩ := H
    go_enter Try.func63, Try.ntmps63
    go_wp2_with (first | ((with_reducible refine gate_dst (N := 1) rfl ?_); refine box_event ?hg (N := 1) ?hd (cs := #[.int .i64 a0_0, .int .i64 a0_1, .int .i64 a0_2, .int .i64 a0_3, .int .i64 a0_4]) (t := 23) ?hr ?_; (case hd => rfl); (case hg => rfl); (case hr => first | (go_simp; done) | (go_simp; rfl)); intro gb185 hg w10 hbox hb; have n0_ := zz (below_step zzb hb); have n1_ := zz (hbox); have n2_ := zz ((zzn hg : w.heap.size ≤ gb185)); have n3_ := zz ((zzn hg : w.heap.size ≤ gb185)); clear HB; have HB := n0_; have BK185 := n1_; have GW185 := n2_; have GE185 := n3_; clear n0_ n1_ n2_ n3_; clear hb hbox hg; obtain ⟨hcz11_0, hcz11_1, hcz11_2, hcz11_3, hcz11_4⟩ := zzc5 BK185.out (.int .i64 a0_0) (.int .i64 a0_1) (.int .i64 a0_2) (.int .i64 a0_3) (.int .i64 a0_4); obtain ⟨hfz11_0, hfz11_1, hfz11_2, hfz11_3, hfz11_4⟩ := zzf5 BK185.out) | ((with_reducible refine gate_callee (f := 30) rfl ?_); refine goesL_ (some 8) rfl rfl Try.func30 (by kernel_rfl) rfl #[.agg #[.int .i64 a0_0, .int .i64 a0_1, .int .i64 a0_2, .int .i64 a0_3, .int .i64 a0_4]] rfl zza ?_; (with_reducible refine (r02_Right.calls k a0_0 a0_1 a0_2 a0_3 a0_4 true _ A2.out).mono ?_); rintro e w12 ⟨rfl, hb⟩; refine ⟨_, rfl, ?_⟩; have n0_ := zz (zzkb BK185.out hb); have n1_ := zz (below_step zzg hb); clear BK185; clear HB; have BK185 := n0_; have HB := n1_; clear n0_ n1_; (try clear hb); (try clear hb2); (try clear hk); (try clear hi); obtain ⟨hcz13_0, hcz13_1, hcz13_2, hcz13_3, hcz13_4⟩ := zzc5 BK185.out (.int .i64 a0_0) (.int .i64 a0_1) (.int .i64 a0_2) (.int .i64 a0_3) (.int .i64 a0_4); obtain ⟨hfz13_0, hfz13_1, hfz13_2, hfz13_3, hfz13_4⟩ := zzf5 BK185.out))
    go_ret2
    exact ⟨zze, zzg⟩
   ·rw [if_neg c9] at H
    have c9b0 : (a0_0 == 46) = false := beq_eq_false_iff_ne.mpr c9
    have c9b1 : (a0_0 != 46) = true := bne_iff_ne.mpr c9
    replace H := Option.bind_eq_some_iff.mp H
    obtain ⟨t187, A140, H⟩ := H
    replace H : (if 0 ≤ a0_0 then (if a0_0 < (t187.length : Int) then ((r02_f3.f).bind fun t191 => (if a0_0 < (t191.length : Int) then ((r02_f7.f).bind fun t195 => (if a0_0 < (t195.length : Int) then ((r02_Form.f a0_0).bind fun t199 => ((r02_places.f t199).bind fun t200 => (r02_Encode.l0 k (((((((rd t187 a0_0) + ((rd t191 a0_0) * 4096)) + ((rd t195 a0_0) * 33554432)) + (((a0_1) % 4294967296) * 128)) + (((a0_2) % 4294967296) * 32768)) + (((a0_3) % 4294967296) * 1048576)) % 4294967296) t200 0 a0_0 a0_1 a0_2 a0_3 a0_4))) else (none))) else (none))) else (none)) else (none)) = some (r1, r2) := H
    have A14 := zz A140
    clear A140
    by_cases c15 : 0 ≤ a0_0
    ·rw [if_pos c15] at H
     have c15b0 : decide (0 ≤ a0_0) = true := decide_eq_true c15
     clear c15
     by_cases c16 : a0_0 < (t187.length : Int)
     ·rw [if_pos c16] at H
      have c16b0 : decide (a0_0 < (t187.length : Int)) = true := decide_eq_true c16
      clear c16
      replace H := Option.bind_eq_some_iff.mp H
      obtain ⟨t191, A170, H⟩ := H
      replace H : (if a0_0 < (t191.length : Int) then ((r02_f7.f).bind fun t195 => (if a0_0 < (t195.length : Int) then ((r02_Form.f a0_0).bind fun t199 => ((r02_places.f t199).bind fun t200 => (r02_Encode.l0 k (((((((rd t187 a0_0) + ((rd t191 a0_0) * 4096)) + ((rd t195 a0_0) * 33554432)) + (((a0_1) % 4294967296) * 128)) + (((a0_2) % 4294967296) * 32768)) + (((a0_3) % 4294967296) * 1048576)) % 4294967296) t200 0 a0_0 a0_1 a0_2 a0_3 a0_4))) else (none))) else (none)) = some (r1, r2) := H
      have A17 := zz A170
      clear A170
      by_cases c18 : a0_0 < (t191.length : Int)
      ·rw [if_pos c18] at H
       have c18b0 : decide (a0_0 < (t191.length : Int)) = true := decide_eq_true c18
       clear c18
       replace H := Option.bind_eq_some_iff.mp H
       obtain ⟨t195, A190, H⟩ := H
       replace H : (if a0_0 < (t195.length : Int) then ((r02_Form.f a0_0).bind fun t199 => ((r02_places.f t199).bind fun t200 => (r02_Encode.l0 k (((((((rd t187 a0_0) + ((rd t191 a0_0) * 4096)) + ((rd t195 a0_0) * 33554432)) + (((a0_1) % 4294967296) * 128)) + (((a0_2) % 4294967296) * 32768)) + (((a0_3) % 4294967296) * 1048576)) % 4294967296) t200 0 a0_0 a0_1 a0_2 a0_3 a0_4))) else (none)) = some (r1, r2) := H
       have A19 := zz A190
       clear A190
       by_cases c20 : a0_0 < (t195.length : Int)
       ·rw [if_pos c20] at H
        have c20b0 : decide (a0_0 < (t195.length : Int)) = true := decide_eq_true c20
        clear c20
        replace H := Option.bind_eq_some_iff.mp H
        obtain ⟨t199, A210, H⟩ := H
        replace H : ((r02_places.f t199).bind fun t200 => (r02_Encode.l0 k (((((((rd t187 a0_0) + ((rd t191 a0_0) * 4096)) + ((rd t195 a0_0) * 33554432)) + (((a0_1) % 4294967296) * 128)) + (((a0_2) % 4294967296) * 32768)) + (((a0_3) % 4294967296) * 1048576)) % 4294967296) t200 0 a0_0 a0_1 a0_2 a0_3 a0_4)) = some (r1, r2) := H
        have A21 := zz A210
        clear A210
        replace H := Option.bind_eq_some_iff.mp H
        obtain ⟨t200, A220, H⟩ := H
        replace H : (r02_Encode.l0 k (((((((rd t187 a0_0) + ((rd t191 a0_0) * 4096)) + ((rd t195 a0_0) * 33554432)) + (((a0_1) % 4294967296) * 128)) + (((a0_2) % 4294967296) * 32768)) + (((a0_3) % 4294967296) * 1048576)) % 4294967296) t200 0 a0_0 a0_1 a0_2 a0_3 a0_4) = some (r1, r2) := H
        have A22 := zz A220
        clear A220
        have H' := zz H
        clear H
        go_enter Try.func63, Try.ntmps63
        try go_wp2_with (first | ((with_reducible refine gate_dst (N := 1) rfl ?_); refine box_event ?hg (N := 1) ?hd (cs := #[.int .i64 a0_0, .int .i64 a0_1, .int .i64 a0_2, .int .i64 a0_3, .int .i64 a0_4]) (t := 23) ?hr ?_; (case hd => rfl); (case hg => rfl); (case hr => first | (go_simp; done) | (go_simp; rfl)); intro gb185 hg w23 hbox hb; have n0_ := zz (below_step zzb hb); have n1_ := zz (hbox); have n2_ := zz ((zzn hg : w.heap.size ≤ gb185)); have n3_ := zz ((zzn hg : w.heap.size ≤ gb185)); clear HB; have HB := n0_; have BK185 := n1_; have GW185 := n2_; have GE185 := n3_; clear n0_ n1_ n2_ n3_; clear hb hbox hg; obtain ⟨hcz24_0, hcz24_1, hcz24_2, hcz24_3, hcz24_4⟩ := zzc5 BK185.out (.int .i64 a0_0) (.int .i64 a0_1) (.int .i64 a0_2) (.int .i64 a0_3) (.int .i64 a0_4); obtain ⟨hfz24_0, hfz24_1, hfz24_2, hfz24_3, hfz24_4⟩ := zzf5 BK185.out) | ((with_reducible refine gate_callee (f := 30) rfl ?_); refine goesL_ (some 8) rfl rfl Try.func30 (by kernel_rfl) rfl #[.agg #[.int .i64 a0_0, .int .i64 a0_1, .int .i64 a0_2, .int .i64 a0_3, .int .i64 a0_4]] rfl zza ?_; (with_reducible refine (r02_Right.calls k a0_0 a0_1 a0_2 a0_3 a0_4 true _ A2.out).mono ?_); rintro e w25 ⟨rfl, hb⟩; refine ⟨_, rfl, ?_⟩; have n0_ := zz (zzkb BK185.out hb); have n1_ := zz (below_step zzg hb); clear BK185; clear HB; have BK185 := n0_; have HB := n1_; clear n0_ n1_; (try clear hb); (try clear hb2); (try clear hk); (try clear hi); obtain ⟨hcz26_0, hcz26_1, hcz26_2, hcz26_3, hcz26_4⟩ := zzc5 BK185.out (.int .i64 a0_0) (.int .i64 a0_1) (.int .i64 a0_2) (.int .i64 a0_3) (.int .i64 a0_4); obtain ⟨hfz26_0, hfz26_1, hfz26_2, hfz26_3, hfz26_4⟩ := zzf5 BK185.out))
        have n0_ := zz (blk_drew BK185.out)
        have n1_ := zz (below_drew1 HB.out)
        clear BK185
        clear HB
        have BK185 := n0_
        have HB := n1_
        clear n0_ n1_
        refine start_ (n := 35) (S := fun w' => w'.cell? ⟨gb185, 0, none⟩ = some (.int .i64 a0_0) ∧ w'.cell? ⟨gb185, 1, none⟩ = some (.int .i64 a0_1) ∧ w'.cell? ⟨gb185, 2, none⟩ = some (.int .i64 a0_2) ∧ w'.cell? ⟨gb185, 3, none⟩ = some (.int .i64 a0_3) ∧ w'.cell? ⟨gb185, 4, none⟩ = some (.int .i64 a0_4) ∧ True ∧ True ∧ True) (ds := []) #[false, false, false, false, false, false, false, false, false, false, false, false, false, false, false, false, false, false, false, false, false, false, false, false, false, false, false, false, false, false, false, false, false, false, false] (by kernel_rfl) rfl rfl ⟨(blk_cell BK185.out 0).trans rfl, (blk_cell BK185.out 1).trans rfl, (blk_cell BK185.out 2).trans rfl, (blk_cell BK185.out 3).trans rfl, (blk_cell BK185.out 4).trans rfl, trivial, trivial, trivial⟩ (fun hHeld => ?_); refine with_tabW r02_Encode.tab7 r02_Encode.bits7 (fun HT_ HW_ => ?_)
        generalize w25.drew = w27 at BK185 HB hHeld ⊢
        refine pure_ (i := 1) (N := some 17) (v := ?_) (a' := ?_) #[false, true, false, false, false, false, false, false, false, false, false, false, false, false, false, false, false, false, false, false, false, false, false, false, false, false, false, false, false, false, false, false, false, false, false] rfl rfl (any_of HT_.out (by kernel_rfl)) (fun _ _ _ h => h) (Or.inl ⟨by rfl, ?_⟩) ?_ ?_
        rotate_left
        ·intro w'
         go_simp
         with_reducible rfl
        rotate_left
        ·simp only [Act.put, List.setIfInBounds_toArray, List.set_cons_zero, List.set_cons_succ, i64_w, i32_w]
         rfl
        refine pure_ (i := 6) (N := some 22) (v := ?_) (a' := ?_) #[false, true, false, false, false, false, true, false, false, false, false, false, false, false, false, false, false, false, false, false, false, false, false, false, false, false, false, false, false, false, false, false, false, false, false] rfl rfl (any_of HT_.out (by kernel_rfl)) (fun _ _ _ h => h) (Or.inl ⟨by rfl, ?_⟩) ?_ ?_
        rotate_left
        ·intro w'
         go_simp
         with_reducible rfl
        rotate_left
        ·simp only [Act.put, List.setIfInBounds_toArray, List.set_cons_zero, List.set_cons_succ, i64_w, i32_w]
         rfl
        refine pure_ (i := 13) (N := some 29) (v := ?_) (a' := ?_) #[false, true, false, false, false, false, true, false, false, false, false, false, false, true, false, false, false, false, false, false, false, false, false, false, false, false, false, false, false, false, false, false, false, false, false] rfl rfl (any_of HT_.out (by kernel_rfl)) (fun _ _ _ h => h) (Or.inl ⟨by rfl, ?_⟩) ?_ ?_
        rotate_left
        ·intro w'
         go_simp
         with_reducible rfl
        rotate_left
        ·simp only [Act.put, List.setIfInBounds_toArray, List.set_cons_zero, List.set_cons_succ, i64_w, i32_w]
         rfl
        refine pure_ (i := 19) (N := some 35) (v := ?_) (a' := ?_) #[false, true, false, false, false, false, true, false, false, false, false, false, false, true, false, false, false, false, false, true, false, false, false, false, false, false, false, false, false, false, false, false, false, false, false] rfl rfl (any_of HT_.out (by kernel_rfl)) (fun _ _ _ h => h) (Or.inl ⟨by rfl, ?_⟩) ?_ ?_
        rotate_left
        ·intro w'
         go_simp
         with_reducible rfl
        rotate_left
        ·simp only [Act.put, List.setIfInBounds_toArray, List.set_cons_zero, List.set_cons_succ, i64_w, i32_w]
         rfl
        refine pure_ (i := 24) (N := some 40) (v := ?_) (a' := ?_) #[false, true, false, false, false, false, true, false, false, false, false, false, false, true, false, false, false, false, false, true, false, false, false, false, true, false, false, false, false, false, false, false, false, false, false] rfl rfl (any_of HT_.out (by kernel_rfl)) (fun _ _ _ h => h) (Or.inl ⟨by rfl, ?_⟩) ?_ ?_
        rotate_left
        ·intro w'
         go_simp
         with_reducible rfl
        rotate_left
        ·simp only [Act.put, List.setIfInBounds_toArray, List.set_cons_zero, List.set_cons_succ, i64_w, i32_w]
         rfl
        refine pure_ (i := 29) (N := some 45) (v := ?_) (a' := ?_) #[false, true, false, false, false, false, true, false, false, false, false, false, false, true, false, false, false, false, false, true, false, false, false, false, true, false, false, false, false, true, false, false, false, false, false] rfl rfl (any_of HT_.out (by kernel_rfl)) (fun _ _ _ h => h) (Or.inl ⟨by rfl, ?_⟩) ?_ ?_
        rotate_left
        ·intro w'
         go_simp
         with_reducible rfl
        rotate_left
        ·simp only [Act.put, List.setIfInBounds_toArray, List.set_cons_zero, List.set_cons_succ, i64_w, i32_w]
         rfl
        refine take_ (i := 2) (N := some 18) (v := ?_) (a' := ?_) #[false, true, true, false, false, false, true, false, false, false, false, false, false, true, false, false, false, false, false, true, false, false, false, false, true, false, false, false, false, true, false, false, false, false, false] rfl rfl (take_ofW HT_.out HW_.out (by kernel_rfl)) (fun _ _ _ h => h) (Or.inl ⟨by rfl, ?_⟩) hHeld ?_ ?_
        rotate_left
        ·rintro w' ⟨s0, s1, s2, s3, s4, s5, s6, s7⟩
         go_simp
         with_reducible rfl
        rotate_left
        ·simp only [Act.put, List.setIfInBounds_toArray, List.set_cons_zero, List.set_cons_succ, i64_w, i32_w]
         rfl
        refine take_ (i := 7) (N := some 23) (v := ?_) (a' := ?_) #[false, true, true, false, false, false, true, true, false, false, false, false, false, true, false, false, false, false, false, true, false, false, false, false, true, false, false, false, false, true, false, false, false, false, false] rfl rfl (take_ofW HT_.out HW_.out (by kernel_rfl)) (fun _ _ _ h => h) (Or.inl ⟨by rfl, ?_⟩) hHeld ?_ ?_
        rotate_left
        ·rintro w' ⟨s0, s1, s2, s3, s4, s5, s6, s7⟩
         go_simp
         with_reducible rfl
        rotate_left
        ·simp only [Act.put, List.setIfInBounds_toArray, List.set_cons_zero, List.set_cons_succ, i64_w, i32_w]
         rfl
        refine take_ (i := 14) (N := some 30) (v := ?_) (a' := ?_) #[false, true, true, false, false, false, true, true, false, false, false, false, false, true, true, false, false, false, false, true, false, false, false, false, true, false, false, false, false, true, false, false, false, false, false] rfl rfl (take_ofW HT_.out HW_.out (by kernel_rfl)) (fun _ _ _ h => h) (Or.inl ⟨by rfl, ?_⟩) hHeld ?_ ?_
        rotate_left
        ·rintro w' ⟨s0, s1, s2, s3, s4, s5, s6, s7⟩
         go_simp
         with_reducible rfl
        rotate_left
        ·simp only [Act.put, List.setIfInBounds_toArray, List.set_cons_zero, List.set_cons_succ, i64_w, i32_w]
         rfl
        refine take_ (i := 20) (N := some 36) (v := ?_) (a' := ?_) #[false, true, true, false, false, false, true, true, false, false, false, false, false, true, true, false, false, false, false, true, true, false, false, false, true, false, false, false, false, true, false, false, false, false, false] rfl rfl (take_ofW HT_.out HW_.out (by kernel_rfl)) (fun _ _ _ h => h) (Or.inl ⟨by rfl, ?_⟩) hHeld ?_ ?_
        rotate_left
        ·rintro w' ⟨s0, s1, s2, s3, s4, s5, s6, s7⟩
         go_simp
         with_reducible rfl
        rotate_left
        ·simp only [Act.put, List.setIfInBounds_toArray, List.set_cons_zero, List.set_cons_succ, i64_w, i32_w]
         rfl
        refine pure_ (i := 21) (N := some 37) (v := ?_) (a' := ?_) #[false, true, true, false, false, false, true, true, false, false, false, false, false, true, true, false, false, false, false, true, true, true, false, false, true, false, false, false, false, true, false, false, false, false, false] rfl rfl (any_of HT_.out (by kernel_rfl)) (fun _ _ _ h => h) (Or.inl ⟨by rfl, ?_⟩) ?_ ?_
        rotate_left
        ·intro w'
         go_simp
         with_reducible rfl
        rotate_left
        ·simp only [Act.put, List.setIfInBounds_toArray, List.set_cons_zero, List.set_cons_succ, i64_w, i32_w]
         rfl
        refine pure_ (i := 22) (N := some 38) (v := ?_) (a' := ?_) #[false, true, true, false, false, false, true, true, false, false, false, false, false, true, true, false, false, false, false, true, true, true, true, false, true, false, false, false, false, true, false, false, false, false, false] rfl rfl (any_of HT_.out (by kernel_rfl)) (fun _ _ _ h => h) (Or.inl ⟨by rfl, ?_⟩) ?_ ?_
        rotate_left
        ·intro w'
         go_simp
         with_reducible rfl
        rotate_left
        ·simp only [Act.put, List.setIfInBounds_toArray, List.set_cons_zero, List.set_cons_succ, i64_w, i32_w]
         rfl
        refine take_ (i := 25) (N := some 41) (v := ?_) (a' := ?_) #[false, true, true, false, false, false, true, true, false, false, false, false, false, true, true, false, false, false, false, true, true, true, true, false, true, true, false, false, false, true, false, false, false, false, false] rfl rfl (take_ofW HT_.out HW_.out (by kernel_rfl)) (fun _ _ _ h => h) (Or.inl ⟨by rfl, ?_⟩) hHeld ?_ ?_
        rotate_left
        ·rintro w' ⟨s0, s1, s2, s3, s4, s5, s6, s7⟩
         go_simp
         with_reducible rfl
        rotate_left
        ·simp only [Act.put, List.setIfInBounds_toArray, List.set_cons_zero, List.set_cons_succ, i64_w, i32_w]
         rfl
        refine pure_ (i := 26) (N := some 42) (v := ?_) (a' := ?_) #[false, true, true, false, false, false, true, true, false, false, false, false, false, true, true, false, false, false, false, true, true, true, true, false, true, true, true, false, false, true, false, false, false, false, false] rfl rfl (any_of HT_.out (by kernel_rfl)) (fun _ _ _ h => h) (Or.inl ⟨by rfl, ?_⟩) ?_ ?_
        rotate_left
        ·intro w'
         go_simp
         with_reducible rfl
        rotate_left
        ·simp only [Act.put, List.setIfInBounds_toArray, List.set_cons_zero, List.set_cons_succ, i64_w, i32_w]
         rfl
        refine pure_ (i := 27) (N := some 43) (v := ?_) (a' := ?_) #[false, true, true, false, false, false, true, true, false, false, false, false, false, true, true, false, false, false, false, true, true, true, true, false, true, true, true, true, false, true, false, false, false, false, false] rfl rfl (any_of HT_.out (by kernel_rfl)) (fun _ _ _ h => h) (Or.inl ⟨by rfl, ?_⟩) ?_ ?_
        rotate_left
        ·intro w'
         go_simp
         with_reducible rfl
        rotate_left
        ·simp only [Act.put, List.setIfInBounds_toArray, List.set_cons_zero, List.set_cons_succ, i64_w, i32_w]
         rfl
        refine take_ (i := 30) (N := some 46) (v := ?_) (a' := ?_) #[false, true, true, false, false, false, true, true, false, false, false, false, false, true, true, false, false, false, false, true, true, true, true, false, true, true, true, true, false, true, true, false, false, false, false] rfl rfl (take_ofW HT_.out HW_.out (by kernel_rfl)) (fun _ _ _ h => h) (Or.inl ⟨by rfl, ?_⟩) hHeld ?_ ?_
        rotate_left
        ·rintro w' ⟨s0, s1, s2, s3, s4, s5, s6, s7⟩
         go_simp
         with_reducible rfl
        rotate_left
        ·simp only [Act.put, List.setIfInBounds_toArray, List.set_cons_zero, List.set_cons_succ, i64_w, i32_w]
         rfl
        refine pure_ (i := 31) (N := some 47) (v := ?_) (a' := ?_) #[false, true, true, false, false, false, true, true, false, false, false, false, false, true, true, false, false, false, false, true, true, true, true, false, true, true, true, true, false, true, true, true, false, false, false] rfl rfl (any_of HT_.out (by kernel_rfl)) (fun _ _ _ h => h) (Or.inl ⟨by rfl, ?_⟩) ?_ ?_
        rotate_left
        ·intro w'
         go_simp
         with_reducible rfl
        rotate_left
        ·simp only [Act.put, List.setIfInBounds_toArray, List.set_cons_zero, List.set_cons_succ, i64_w, i32_w]
         rfl
        refine pure_ (i := 32) (N := some 48) (v := ?_) (a' := ?_) #[false, true, true, false, false, false, true, true, false, false, false, false, false, true, true, false, false, false, false, true, true, true, true, false, true, true, true, true, false, true, true, true, true, false, false] rfl rfl (any_of HT_.out (by kernel_rfl)) (fun _ _ _ h => h) (Or.inl ⟨by rfl, ?_⟩) ?_ ?_
        rotate_left
        ·intro w'
         go_simp
         with_reducible rfl
        rotate_left
        ·simp only [Act.put, List.setIfInBounds_toArray, List.set_cons_zero, List.set_cons_succ, i64_w, i32_w]
         rfl
        refine one_ (i := 0) (N := some 16) #[true, true, true, false, false, false, true, true, false, false, false, false, false, true, true, false, false, false, false, true, true, true, true, false, true, true, true, true, false, true, true, true, true, false, false] rfl rfl (one_of HT_.out (by kernel_rfl)) (by decide) (fun K hK => ?_)
        refine goes_ Try.func82 (by kernel_rfl) rfl #[] (by rfl) rfl rfl zza ?_
        with_reducible refine (r02_ops.calls  t187 _ A14.out).mono ?_
        rintro e w28 ⟨v188, rfl, ho0, hb⟩
        have HS5_ := trivial
        have HS6_ := trivial
        have HS7_ := trivial
        refine ⟨_, rfl, ?_⟩
        have n0_ := zz (Kd.R_lower ho0 (below_size zzg))
        have n1_ := zz (zzkb BK185.out hb)
        have n2_ := zz (below_step zzg hb)
        clear BK185
        clear HB
        have HO189 := n0_
        have BK185 := n1_
        have HB := n2_
        clear n0_ n1_ n2_
        (try clear hb)
        (try clear hb2)
        (try clear hk)
        (try clear hi)
        (try clear ho0)
        obtain ⟨Ao29, co29, eo29⟩ := Kd.R_slice HO189.out
        (first | subst eo29 | (injection eo29 with f1_ f2_ f3_; have f4_ := f1_.symm; have f5_ := f3_.symm; clear f1_ f2_ f3_; subst f4_; subst f5_))
        have p190 : 0 ≤ (a0_0 : Int) := of_decide_eq_true zzm
        have q190 : a0_0 < (t187.length : Int) := of_decide_eq_true zzm
        obtain ⟨ad190, e190, hx190_0⟩ := Kd.at_int (Kd.R_reads' HO189.out).2.2 a0_0 p190 q190
        cases e190
        replace p190 := eq_true p190
        replace q190 := eq_true q190
        refine hK.out _ _ ⟨(blk_cell BK185.out 0).trans rfl, (blk_cell BK185.out 1).trans rfl, (blk_cell BK185.out 2).trans rfl, (blk_cell BK185.out 3).trans rfl, (blk_cell BK185.out 4).trans rfl, HS5_, HS6_, HS7_⟩ (fun hHeld => ?_)
        clear hK K
        replace hHeld := (⟨hHeld.1, hHeld.2.1, hHeld.2.2.1, hHeld.2.2.2.1, hHeld.2.2.2.2.1, hx190_0, trivial, trivial⟩ : w28.cell? ⟨gb185, 0, none⟩ = some (.int .i64 a0_0) ∧ w28.cell? ⟨gb185, 1, none⟩ = some (.int .i64 a0_1) ∧ w28.cell? ⟨gb185, 2, none⟩ = some (.int .i64 a0_2) ∧ w28.cell? ⟨gb185, 3, none⟩ = some (.int .i64 a0_3) ∧ w28.cell? ⟨gb185, 4, none⟩ = some (.int .i64 a0_4) ∧ w28.cell? (ad190.add (a0_0).toNat) = some (.int .u32 (rd t187 a0_0)) ∧ True ∧ True)
        refine strengthen_ (S' := fun w' => w'.cell? ⟨gb185, 0, none⟩ = some (.int .i64 a0_0) ∧ w'.cell? ⟨gb185, 1, none⟩ = some (.int .i64 a0_1) ∧ w'.cell? ⟨gb185, 2, none⟩ = some (.int .i64 a0_2) ∧ w'.cell? ⟨gb185, 3, none⟩ = some (.int .i64 a0_3) ∧ w'.cell? ⟨gb185, 4, none⟩ = some (.int .i64 a0_4) ∧ w'.cell? (ad190.add (a0_0).toNat) = some (.int .u32 (rd t187 a0_0)) ∧ True ∧ True) (fun w' h_ => ⟨h_.1, h_.2.1, h_.2.2.1, h_.2.2.2.1, h_.2.2.2.2.1, trivial, trivial, trivial⟩) hHeld ?_
        refine norm_ (a' := ?_) ?_ ?_
        rotate_left
        ·show Act.put _ (some 16) _ = _
         simp only [Act.put, List.setIfInBounds_toArray, List.set_cons_zero, List.set_cons_succ, i64_w, i32_w]
         rfl
        refine pure_ (i := 3) (N := some 19) (v := ?_) (a' := ?_) #[true, true, true, true, false, false, true, true, false, false, false, false, false, true, true, false, false, false, false, true, true, true, true, false, true, true, true, true, false, true, true, true, true, false, false] rfl rfl (any_of HT_.out (by kernel_rfl)) (fun _ _ _ h => h) (Or.inl ⟨by rfl, ?_⟩) ?_ ?_
        rotate_left
        ·intro w'
         go_simp
         with_reducible rfl
        rotate_left
        ·simp only [Act.put, List.setIfInBounds_toArray, List.set_cons_zero, List.set_cons_succ, i64_w, i32_w]
         rfl
        refine take_ (i := 4) (N := some 20) (v := ?_) (a' := ?_) #[true, true, true, true, true, false, true, true, false, false, false, false, false, true, true, false, false, false, false, true, true, true, true, false, true, true, true, true, false, true, true, true, true, false, false] rfl rfl (take_ofW HT_.out HW_.out (by kernel_rfl)) (fun _ _ _ h => h) (Or.inl ⟨by rfl, ?_⟩) hHeld ?_ ?_
        rotate_left
        ·rintro w' ⟨s0, s1, s2, s3, s4, s5, s6, s7⟩
         go_simp
         with_reducible rfl
        rotate_left
        ·simp only [Act.put, List.setIfInBounds_toArray, List.set_cons_zero, List.set_cons_succ, i64_w, i32_w]
         rfl
        refine one_ (i := 5) (N := some 21) #[true, true, true, true, true, true, true, true, false, false, false, false, false, true, true, false, false, false, false, true, true, true, true, false, true, true, true, true, false, true, true, true, true, false, false] rfl rfl (one_of HT_.out (by kernel_rfl)) (by decide) (fun K hK => ?_)
        refine goes_ Try.func83 (by kernel_rfl) rfl #[] (by rfl) rfl rfl zza ?_
        with_reducible refine (r02_f3.calls  t191 _ A17.out).mono ?_
        rintro e w30 ⟨v192, rfl, ho0, hb⟩
        have HS5_ := (hb.cell (World.block_lt_of_cell? _ _ (hHeld.2.2.2.2.2.1))).trans (hHeld.2.2.2.2.2.1)
        have HS6_ := trivial
        have HS7_ := trivial
        refine ⟨_, rfl, ?_⟩
        have n0_ := zz (Kd.R_elder' (zzr HO189.out) (Kd.R_base ho0) hb)
        have n1_ := zz (Kd.R_lower (Kd.R_new' ho0 (Kd.R_lt (zzr HO189.out))) (below_size zzg))
        have n2_ := zz (zzkb BK185.out hb)
        have n3_ := zz (below_step zzg hb)
        clear HO189
        clear BK185
        clear HB
        have HO189 := n0_
        have HO193 := n1_
        have BK185 := n2_
        have HB := n3_
        clear n0_ n1_ n2_ n3_
        (try clear hb)
        (try clear hb2)
        (try clear hk)
        (try clear hi)
        (try clear ho0)
        obtain ⟨Ao31, co31, eo31⟩ := Kd.R_slice HO193.out
        (first | subst eo31 | (injection eo31 with f1_ f2_ f3_; have f4_ := f1_.symm; have f5_ := f3_.symm; clear f1_ f2_ f3_; subst f4_; subst f5_))
        have p194 : 0 ≤ (a0_0 : Int) := of_decide_eq_true zzm
        have q194 : a0_0 < (t191.length : Int) := of_decide_eq_true zzm
        obtain ⟨ad194, e194, hx194_0⟩ := Kd.at_int (Kd.R_reads' HO193.out).2.2 a0_0 p194 q194
        cases e194
        replace p194 := eq_true p194
        replace q194 := eq_true q194
        refine hK.out _ _ ⟨(blk_cell BK185.out 0).trans rfl, (blk_cell BK185.out 1).trans rfl, (blk_cell BK185.out 2).trans rfl, (blk_cell BK185.out 3).trans rfl, (blk_cell BK185.out 4).trans rfl, HS5_, HS6_, HS7_⟩ (fun hHeld => ?_)
        clear hK K
        replace hHeld := (⟨hHeld.1, hHeld.2.1, hHeld.2.2.1, hHeld.2.2.2.1, hHeld.2.2.2.2.1, hHeld.2.2.2.2.2.1, hx194_0, trivial⟩ : w30.cell? ⟨gb185, 0, none⟩ = some (.int .i64 a0_0) ∧ w30.cell? ⟨gb185, 1, none⟩ = some (.int .i64 a0_1) ∧ w30.cell? ⟨gb185, 2, none⟩ = some (.int .i64 a0_2) ∧ w30.cell? ⟨gb185, 3, none⟩ = some (.int .i64 a0_3) ∧ w30.cell? ⟨gb185, 4, none⟩ = some (.int .i64 a0_4) ∧ w30.cell? (ad190.add (a0_0).toNat) = some (.int .u32 (rd t187 a0_0)) ∧ w30.cell? (ad194.add (a0_0).toNat) = some (.int .u32 (rd t191 a0_0)) ∧ True)
        refine strengthen_ (S' := fun w' => w'.cell? ⟨gb185, 0, none⟩ = some (.int .i64 a0_0) ∧ w'.cell? ⟨gb185, 1, none⟩ = some (.int .i64 a0_1) ∧ w'.cell? ⟨gb185, 2, none⟩ = some (.int .i64 a0_2) ∧ w'.cell? ⟨gb185, 3, none⟩ = some (.int .i64 a0_3) ∧ w'.cell? ⟨gb185, 4, none⟩ = some (.int .i64 a0_4) ∧ w'.cell? (ad190.add (a0_0).toNat) = some (.int .u32 (rd t187 a0_0)) ∧ w'.cell? (ad194.add (a0_0).toNat) = some (.int .u32 (rd t191 a0_0)) ∧ True) (fun w' h_ => ⟨h_.1, h_.2.1, h_.2.2.1, h_.2.2.2.1, h_.2.2.2.2.1, h_.2.2.2.2.2.1, trivial, trivial⟩) hHeld ?_
        refine norm_ (a' := ?_) ?_ ?_
        rotate_left
        ·show Act.put _ (some 21) _ = _
         simp only [Act.put, List.setIfInBounds_toArray, List.set_cons_zero, List.set_cons_succ, i64_w, i32_w]
         rfl
        refine pure_ (i := 8) (N := some 24) (v := ?_) (a' := ?_) #[true, true, true, true, true, true, true, true, true, false, false, false, false, true, true, false, false, false, false, true, true, true, true, false, true, true, true, true, false, true, true, true, true, false, false] rfl rfl (any_of HT_.out (by kernel_rfl)) (fun _ _ _ h => h) (Or.inl ⟨by rfl, ?_⟩) ?_ ?_
        rotate_left
        ·intro w'
         go_simp
         with_reducible rfl
        rotate_left
        ·simp only [Act.put, List.setIfInBounds_toArray, List.set_cons_zero, List.set_cons_succ, i64_w, i32_w]
         rfl
        refine take_ (i := 9) (N := some 25) (v := ?_) (a' := ?_) #[true, true, true, true, true, true, true, true, true, true, false, false, false, true, true, false, false, false, false, true, true, true, true, false, true, true, true, true, false, true, true, true, true, false, false] rfl rfl (take_ofW HT_.out HW_.out (by kernel_rfl)) (fun _ _ _ h => h) (Or.inl ⟨by rfl, ?_⟩) hHeld ?_ ?_
        rotate_left
        ·rintro w' ⟨s0, s1, s2, s3, s4, s5, s6, s7⟩
         go_simp
         with_reducible rfl
        rotate_left
        ·simp only [Act.put, List.setIfInBounds_toArray, List.set_cons_zero, List.set_cons_succ, i64_w, i32_w]
         rfl
        refine pure_ (i := 10) (N := some 26) (v := ?_) (a' := ?_) #[true, true, true, true, true, true, true, true, true, true, true, false, false, true, true, false, false, false, false, true, true, true, true, false, true, true, true, true, false, true, true, true, true, false, false] rfl rfl (any_of HT_.out (by kernel_rfl)) (fun _ _ _ h => h) (Or.inl ⟨by rfl, ?_⟩) ?_ ?_
        rotate_left
        ·intro w'
         go_simp
         with_reducible rfl
        rotate_left
        ·simp only [Act.put, List.setIfInBounds_toArray, List.set_cons_zero, List.set_cons_succ, i64_w, i32_w]
         rfl
        refine pure_ (i := 11) (N := some 27) (v := ?_) (a' := ?_) #[true, true, true, true, true, true, true, true, true, true, true, true, false, true, true, false, false, false, false, true, true, true, true, false, true, true, true, true, false, true, true, true, true, false, false] rfl rfl (any_of HT_.out (by kernel_rfl)) (fun _ _ _ h => h) (Or.inl ⟨by rfl, ?_⟩) ?_ ?_
        rotate_left
        ·intro w'
         go_simp
         with_reducible rfl
        rotate_left
        ·simp only [Act.put, List.setIfInBounds_toArray, List.set_cons_zero, List.set_cons_succ, i64_w, i32_w]
         rfl
        refine one_ (i := 12) (N := some 28) #[true, true, true, true, true, true, true, true, true, true, true, true, true, true, true, false, false, false, false, true, true, true, true, false, true, true, true, true, false, true, true, true, true, false, false] rfl rfl (one_of HT_.out (by kernel_rfl)) (by decide) (fun K hK => ?_)
        refine goes_ Try.func84 (by kernel_rfl) rfl #[] (by rfl) rfl rfl zza ?_
        with_reducible refine (r02_f7.calls  t195 _ A19.out).mono ?_
        rintro e w32 ⟨v196, rfl, ho0, hb⟩
        have HS5_ := (hb.cell (World.block_lt_of_cell? _ _ (hHeld.2.2.2.2.2.1))).trans (hHeld.2.2.2.2.2.1)
        have HS6_ := (hb.cell (World.block_lt_of_cell? _ _ (hHeld.2.2.2.2.2.2.1))).trans (hHeld.2.2.2.2.2.2.1)
        have HS7_ := trivial
        refine ⟨_, rfl, ?_⟩
        have n0_ := zz (Kd.R_elder' (zzr HO189.out) (Kd.R_base ho0) hb)
        have n1_ := zz (Kd.R_elder' (zzr HO193.out) (Kd.R_base ho0) hb)
        have n2_ := zz (Kd.R_lower (Kd.R_new' (Kd.R_new' ho0 (Kd.R_lt (zzr HO189.out))) (Kd.R_lt (zzr HO193.out))) (below_size zzg))
        have n3_ := zz (zzkb BK185.out hb)
        have n4_ := zz (below_step zzg hb)
        clear HO189
        clear HO193
        clear BK185
        clear HB
        have HO189 := n0_
        have HO193 := n1_
        have HO197 := n2_
        have BK185 := n3_
        have HB := n4_
        clear n0_ n1_ n2_ n3_ n4_
        (try clear hb)
        (try clear hb2)
        (try clear hk)
        (try clear hi)
        (try clear ho0)
        obtain ⟨Ao33, co33, eo33⟩ := Kd.R_slice HO197.out
        (first | subst eo33 | (injection eo33 with f1_ f2_ f3_; have f4_ := f1_.symm; have f5_ := f3_.symm; clear f1_ f2_ f3_; subst f4_; subst f5_))
        have p198 : 0 ≤ (a0_0 : Int) := of_decide_eq_true zzm
        have q198 : a0_0 < (t195.length : Int) := of_decide_eq_true zzm
        obtain ⟨ad198, e198, hx198_0⟩ := Kd.at_int (Kd.R_reads' HO197.out).2.2 a0_0 p198 q198
        cases e198
        replace p198 := eq_true p198
        replace q198 := eq_true q198
        refine hK.out _ _ ⟨(blk_cell BK185.out 0).trans rfl, (blk_cell BK185.out 1).trans rfl, (blk_cell BK185.out 2).trans rfl, (blk_cell BK185.out 3).trans rfl, (blk_cell BK185.out 4).trans rfl, HS5_, HS6_, HS7_⟩ (fun hHeld => ?_)
        clear hK K
        replace hHeld := (⟨hHeld.1, hHeld.2.1, hHeld.2.2.1, hHeld.2.2.2.1, hHeld.2.2.2.2.1, hHeld.2.2.2.2.2.1, hHeld.2.2.2.2.2.2.1, hx198_0⟩ : w32.cell? ⟨gb185, 0, none⟩ = some (.int .i64 a0_0) ∧ w32.cell? ⟨gb185, 1, none⟩ = some (.int .i64 a0_1) ∧ w32.cell? ⟨gb185, 2, none⟩ = some (.int .i64 a0_2) ∧ w32.cell? ⟨gb185, 3, none⟩ = some (.int .i64 a0_3) ∧ w32.cell? ⟨gb185, 4, none⟩ = some (.int .i64 a0_4) ∧ w32.cell? (ad190.add (a0_0).toNat) = some (.int .u32 (rd t187 a0_0)) ∧ w32.cell? (ad194.add (a0_0).toNat) = some (.int .u32 (rd t191 a0_0)) ∧ w32.cell? (ad198.add (a0_0).toNat) = some (.int .u32 (rd t195 a0_0)))
        refine strengthen_ (S' := fun w' => w'.cell? ⟨gb185, 0, none⟩ = some (.int .i64 a0_0) ∧ w'.cell? ⟨gb185, 1, none⟩ = some (.int .i64 a0_1) ∧ w'.cell? ⟨gb185, 2, none⟩ = some (.int .i64 a0_2) ∧ w'.cell? ⟨gb185, 3, none⟩ = some (.int .i64 a0_3) ∧ w'.cell? ⟨gb185, 4, none⟩ = some (.int .i64 a0_4) ∧ w'.cell? (ad190.add (a0_0).toNat) = some (.int .u32 (rd t187 a0_0)) ∧ w'.cell? (ad194.add (a0_0).toNat) = some (.int .u32 (rd t191 a0_0)) ∧ w'.cell? (ad198.add (a0_0).toNat) = some (.int .u32 (rd t195 a0_0))) (fun w' h_ => ⟨h_.1, h_.2.1, h_.2.2.1, h_.2.2.2.1, h_.2.2.2.2.1, h_.2.2.2.2.2.1, h_.2.2.2.2.2.2.1, trivial⟩) hHeld ?_
        refine norm_ (a' := ?_) ?_ ?_
        rotate_left
        ·show Act.put _ (some 28) _ = _
         simp only [Act.put, List.setIfInBounds_toArray, List.set_cons_zero, List.set_cons_succ, i64_w, i32_w]
         rfl
        refine pure_ (i := 15) (N := some 31) (v := ?_) (a' := ?_) #[true, true, true, true, true, true, true, true, true, true, true, true, true, true, true, true, false, false, false, true, true, true, true, false, true, true, true, true, false, true, true, true, true, false, false] rfl rfl (any_of HT_.out (by kernel_rfl)) (fun _ _ _ h => h) (Or.inl ⟨by rfl, ?_⟩) ?_ ?_
        rotate_left
        ·intro w'
         go_simp
         with_reducible rfl
        rotate_left
        ·simp only [Act.put, List.setIfInBounds_toArray, List.set_cons_zero, List.set_cons_succ, i64_w, i32_w]
         rfl
        refine take_ (i := 16) (N := some 32) (v := ?_) (a' := ?_) #[true, true, true, true, true, true, true, true, true, true, true, true, true, true, true, true, true, false, false, true, true, true, true, false, true, true, true, true, false, true, true, true, true, false, false] rfl rfl (take_ofW HT_.out HW_.out (by kernel_rfl)) (fun _ _ _ h => h) (Or.inl ⟨by rfl, ?_⟩) hHeld ?_ ?_
        rotate_left
        ·rintro w' ⟨s0, s1, s2, s3, s4, s5, s6, s7⟩
         go_simp
         with_reducible rfl
        rotate_left
        ·simp only [Act.put, List.setIfInBounds_toArray, List.set_cons_zero, List.set_cons_succ, i64_w, i32_w]
         rfl
        refine pure_ (i := 17) (N := some 33) (v := ?_) (a' := ?_) #[true, true, true, true, true, true, true, true, true, true, true, true, true, true, true, true, true, true, false, true, true, true, true, false, true, true, true, true, false, true, true, true, true, false, false] rfl rfl (any_of HT_.out (by kernel_rfl)) (fun _ _ _ h => h) (Or.inl ⟨by rfl, ?_⟩) ?_ ?_
        rotate_left
        ·intro w'
         go_simp
         with_reducible rfl
        rotate_left
        ·simp only [Act.put, List.setIfInBounds_toArray, List.set_cons_zero, List.set_cons_succ, i64_w, i32_w]
         rfl
        refine pure_ (i := 18) (N := some 34) (v := ?_) (a' := ?_) #[true, true, true, true, true, true, true, true, true, true, true, true, true, true, true, true, true, true, true, true, true, true, true, false, true, true, true, true, false, true, true, true, true, false, false] rfl rfl (any_of HT_.out (by kernel_rfl)) (fun _ _ _ h => h) (Or.inl ⟨by rfl, ?_⟩) ?_ ?_
        rotate_left
        ·intro w'
         go_simp
         with_reducible rfl
        rotate_left
        ·simp only [Act.put, List.setIfInBounds_toArray, List.set_cons_zero, List.set_cons_succ, i64_w, i32_w]
         rfl
        refine pure_ (i := 23) (N := some 39) (v := ?_) (a' := ?_) #[true, true, true, true, true, true, true, true, true, true, true, true, true, true, true, true, true, true, true, true, true, true, true, true, true, true, true, true, false, true, true, true, true, false, false] rfl rfl (any_of HT_.out (by kernel_rfl)) (fun _ _ _ h => h) (Or.inl ⟨by rfl, ?_⟩) ?_ ?_
        rotate_left
        ·intro w'
         go_simp
         with_reducible rfl
        rotate_left
        ·simp only [Act.put, List.setIfInBounds_toArray, List.set_cons_zero, List.set_cons_succ, i64_w, i32_w]
         rfl
        refine pure_ (i := 28) (N := some 44) (v := ?_) (a' := ?_) #[true, true, true, true, true, true, true, true, true, true, true, true, true, true, true, true, true, true, true, true, true, true, true, true, true, true, true, true, true, true, true, true, true, false, false] rfl rfl (any_of HT_.out (by kernel_rfl)) (fun _ _ _ h => h) (Or.inl ⟨by rfl, ?_⟩) ?_ ?_
        rotate_left
        ·intro w'
         go_simp
         with_reducible rfl
        rotate_left
        ·simp only [Act.put, List.setIfInBounds_toArray, List.set_cons_zero, List.set_cons_succ, i64_w, i32_w]
         rfl
        refine pure_ (i := 33) (N := some 49) (v := ?_) (a' := ?_) #[true, true, true, true, true, true, true, true, true, true, true, true, true, true, true, true, true, true, true, true, true, true, true, true, true, true, true, true, true, true, true, true, true, true, false] rfl rfl (any_of HT_.out (by kernel_rfl)) (fun _ _ _ h => h) (Or.inl ⟨by rfl, ?_⟩) ?_ ?_
        rotate_left
        ·intro w'
         go_simp
         with_reducible rfl
        rotate_left
        ·simp only [Act.put, List.setIfInBounds_toArray, List.set_cons_zero, List.set_cons_succ, i64_w, i32_w]
         rfl
        refine pure_ (i := 34) (N := some 4) (v := ?_) (a' := ?_) #[true, true, true, true, true, true, true, true, true, true, true, true, true, true, true, true, true, true, true, true, true, true, true, true, true, true, true, true, true, true, true, true, true, true, true] rfl rfl (any_of HT_.out (by kernel_rfl)) (fun _ _ _ h => h) (Or.inl ⟨by rfl, ?_⟩) ?_ ?_
        rotate_left
        ·intro w'
         go_simp
         with_reducible rfl
        rotate_left
        ·simp only [Act.put, List.setIfInBounds_toArray, List.set_cons_zero, List.set_cons_succ, i64_w, i32_w]
         rfl
        refine done_ (done_of HT_.out (by kernel_rfl)) ?_
        obtain ⟨hcz34_0, hcz34_1, hcz34_2, hcz34_3, hcz34_4⟩ := zzc5 BK185.out (.int .i64 a0_0) (.int .i64 a0_1) (.int .i64 a0_2) (.int .i64 a0_3) (.int .i64 a0_4)
        obtain ⟨hfz34_0, hfz34_1, hfz34_2, hfz34_3, hfz34_4⟩ := zzf5 BK185.out
        try go_wp2_with (first | ((with_reducible refine gate_callee (f := 31) rfl ?_); refine goesL_ (some 52) rfl rfl Try.func31 (by kernel_rfl) rfl #[.int .i64 a0_0] rfl zza ?_; (with_reducible refine (r02_Form.calls a0_0 t199 _ A21.out).mono ?_); rintro e w' ⟨rfl, ⟨nd, rfl⟩⟩; refine ⟨_, rfl, ?_⟩) | ((with_reducible refine gate_callee (f := 80) rfl ?_); refine goesL_ (some 53) rfl rfl Try.func80 (by kernel_rfl) rfl #[.int .u8 t199] rfl zza ?_; (with_reducible refine (r02_places.calls t199 t200 _ A22.out).mono ?_); rintro e w35 ⟨v201, rfl, ho0, hb⟩; refine ⟨_, rfl, ?_⟩; have n0_ := zz (Kd.R_below (zzr HO189.out) hb); have n1_ := zz (Kd.R_below (zzr HO193.out) hb); have n2_ := zz (Kd.R_below (zzr HO197.out) hb); have n3_ := zz (Kd.R_lower ho0 (below_size zzg)); have n4_ := zz (zzkb BK185.out hb); have n5_ := zz (below_step zzg hb); clear HO189; clear HO193; clear HO197; clear BK185; clear HB; have HO189 := n0_; have HO193 := n1_; have HO197 := n2_; have HO202 := n3_; have BK185 := n4_; have HB := n5_; clear n0_ n1_ n2_ n3_ n4_ n5_; (try clear hb); (try clear hb2); (try clear hk); (try clear hi); (try clear ho0)))
        try simp only [Int.emod_add_emod, Int.add_emod_emod]
        go_loopg [4, 6] k (fun kq v4 v6 w' => ∃ (x4_1 : Int) (x6_1 : Int), v4 = .int .u32 x4_1 ∧ v6 = .int .i64 x6_1 ∧ Aside0 (r02_Encode.l0 kq x4_1 t200 x6_1 a0_0 a0_1 a0_2 a0_3 a0_4 = some (r1, r2)) ∧ Aside0 (kq ≤ k) ∧ Aside0 (Kd.R (Kd.int .i64) 3 w' w.heap.size (fun _ => True) v201 t200) ∧ Aside0 (w'.heap[gb185]? = some (.cells #[.int .i64 a0_0, .int .i64 a0_1, .int .i64 a0_2, .int .i64 a0_3, .int .i64 a0_4] 23 (0, 0))) ∧ Aside0 (Below w.heap.size w w'))
        case atStart => exact ⟨(((((((rd t187 a0_0) + ((rd t191 a0_0) * 4096)) + ((rd t195 a0_0) * 33554432)) + (((a0_1) % 4294967296) * 128)) + (((a0_2) % 4294967296) * 32768)) + (((a0_3) % 4294967296) * 1048576)) % 4294967296), (0), (zzh), (zzh), H', ⟨Nat.le_refl _⟩, ⟨by refine zzr ?_; exact HO202.out⟩, ⟨by refine zzk ?_; exact BK185.out⟩, ⟨zzg⟩⟩
        case round =>
         clear H'
         try clear c1
         try clear p1
         try clear q1
         try clear hx1
         try clear c2
         try clear p2
         try clear c3
         try clear c4
         try clear c4b0
         try clear c4b1
         try clear c6
         try clear c8
         try clear c9
         try clear c9b0
         try clear c9b1
         try clear c15
         try clear c15b0
         try clear c16
         try clear c16b0
         try clear c18
         try clear c18b0
         try clear p19
         try clear q19
         try clear hx19
         try clear c20
         try clear c20b0
         try clear c30
         try clear c31
         try clear hcz11_0 hcz11_1 hcz11_2 hcz11_3 hcz11_4
         try clear hcz13_0 hcz13_1 hcz13_2 hcz13_3 hcz13_4
         try clear hcz24_0 hcz24_1 hcz24_2 hcz24_3 hcz24_4
         try clear hcz26_0 hcz26_1 hcz26_2 hcz26_3 hcz26_4
         try clear hcz34_0 hcz34_1 hcz34_2 hcz34_3 hcz34_4
         try clear hcz6_0 hcz6_1 hcz6_2 hcz6_3 hcz6_4
         try clear hcz8_0 hcz8_1 hcz8_2 hcz8_3 hcz8_4
         try clear hfz11_0 hfz11_1 hfz11_2 hfz11_3 hfz11_4
         try clear hfz13_0 hfz13_1 hfz13_2 hfz13_3 hfz13_4
         try clear hfz24_0 hfz24_1 hfz24_2 hfz24_3 hfz24_4
         try clear hfz26_0 hfz26_1 hfz26_2 hfz26_3 hfz26_4
         try clear hfz34_0 hfz34_1 hfz34_2 hfz34_3 hfz34_4
         try clear hfz6_0 hfz6_1 hfz6_2 hfz6_3 hfz6_4
         try clear hfz8_0 hfz8_1 hfz8_2 hfz8_3 hfz8_4
         try clear hx190_0
         try clear hx194_0
         try clear hx198_0
         try clear p190
         try clear p194
         try clear p198
         try clear q190
         try clear q194
         try clear q198
         obtain ⟨x4_1, x6_1, rfl, rfl, HA, HK1, HO_5, BK185, HB⟩ := hrel
         cases gk with
         | zero => exact absurd HA.out (by simp [r02_Encode.l0])
         | succ k1 =>
          have H := HA.out
          clear HA
          simp only [r02_Encode.l0] at H
          by_cases c36 : x6_1 < (t200.length : Int)
          ·rw [if_pos c36] at H
           have c36b0 : decide (x6_1 < (t200.length : Int)) = true := decide_eq_true c36
           clear c36
           by_cases c37 : 0 ≤ x6_1
           ·rw [if_pos c37] at H
            have c37b0 : decide (0 ≤ x6_1) = true := decide_eq_true c37
            clear c37
            by_cases c38 : (rd t200 x6_1) ≥ 0
            ·rw [if_pos c38] at H
             have c38b0 : decide (0 ≤ (rd t200 x6_1)) = true := decide_eq_true c38
             clear c38
             replace H := Option.bind_eq_some_iff.mp H
             obtain ⟨t204, A390, H⟩ := H
             replace H : (if t204 = 1 then (if 0 ≤ (rd t200 x6_1) then (r02_Encode.l0 k1 (Go.bits .or .u32 x4_1 (shl .u32 1 (rd t200 x6_1))) t200 (wrap64 (x6_1 + 1)) a0_0 a0_1 a0_2 a0_3 a0_4) else (none)) else (r02_Encode.l0 k1 x4_1 t200 (wrap64 (x6_1 + 1)) a0_0 a0_1 a0_2 a0_3 a0_4)) = some (r1, r2) := H
             have A39 := zz A390
             clear A390
             by_cases c40 : t204 = 1
             ·rw [if_pos c40] at H
              have c40b0 : (t204 == 1) = true := beq_iff_eq.mpr c40
              have c40b1 : (t204 != 1) = false := bne_eq_false_iff_eq.mpr c40
              clear c40
              by_cases c41 : 0 ≤ (rd t200 x6_1)
              ·rw [if_pos c41] at H
               have c41b0 := eq_true c41
               have c41b1 : decide (0 ≤ (rd t200 x6_1)) = true := decide_eq_true c41
               clear c41
               obtain ⟨ji42, hji42⟩ : ∃ j_ : Int, (shl .u32 1 (rd t200 x6_1)) = j_ := ⟨_, rfl⟩
               replace H : (r02_Encode.l0 k1 (Go.bits .or .u32 x4_1 (ji42)) t200 (wrap64 (x6_1 + 1)) a0_0 a0_1 a0_2 a0_3 a0_4) = some (r1, r2) := by first | (rw [hji42] at H; exact H) | (simp only [hji42] at H ⊢; exact H)
               (try rw [hji42] at A39)
               have hji42_ : (IntKind.u32.wrap (1 * 2 ^ min (rd t200 x6_1).toNat 32)) = ji42 := hji42
               have hji42z : (rd t200 x6_1) ≤ 32 → (IntKind.u32.wrap (1 * 2 ^ (rd t200 x6_1).toNat)) = ji42 := shl_small hji42
               have hji42u : (IntKind.u32.wrap (2 ^ min (rd t200 x6_1).toNat 32)) = ji42 := by have h_ := hji42_; rw [Int.one_mul] at h_; exact h_
               have hji42v : (rd t200 x6_1) ≤ 32 → (IntKind.u32.wrap (2 ^ (rd t200 x6_1).toNat)) = ji42 := fun hle_ => by have h_ := hji42z hle_; rw [Int.one_mul] at h_; exact h_
               have H' := zz H
               clear H
               obtain ⟨Ao43, co43, eo43⟩ := Kd.R_slice HO_5.out
               subst eo43
               have p203 : 0 ≤ (x6_1 : Int) := of_decide_eq_true zzm
               have q203 : x6_1 < (t200.length : Int) := of_decide_eq_true zzm
               obtain ⟨ad203, e203, hx203_0⟩ := Kd.at_int (Kd.R_reads' HO_5.out).2.2 x6_1 p203 q203
               cases e203
               replace p203 := eq_true p203
               replace q203 := eq_true q203
               obtain ⟨hcz44_0, hcz44_1, hcz44_2, hcz44_3, hcz44_4⟩ := zzc5 BK185.out (.int .i64 a0_0) (.int .i64 a0_1) (.int .i64 a0_2) (.int .i64 a0_3) (.int .i64 a0_4)
               obtain ⟨hfz44_0, hfz44_1, hfz44_2, hfz44_3, hfz44_4⟩ := zzf5 BK185.out
               go_wp2_with (first | (go_at_call 81; (with_reducible refine (r01_Bit.calls ((a0_4) % 4294967296) x6_1 t204 _ A39.out).mono ?_); rintro e w' ⟨rfl, ⟨nd, rfl⟩⟩; have p205 : 0 ≤ (x6_1 : Int) := of_decide_eq_true zzm; have q205 : x6_1 < (t200.length : Int) := of_decide_eq_true zzm; obtain ⟨ad205, e205, hx205_0⟩ := Kd.at_int (Kd.R_reads' HO_5.out).2.2 x6_1 p205 q205; obtain rfl : ad203 = ad205 := (by injection e205); replace p205 := eq_true p205; replace q205 := eq_true q205))
               go_roundg k1
               case measure => have := HK1.out; omega
               case rel => exact ⟨(Go.bits .or .u32 x4_1 (ji42)), (wrap64 (x6_1 + 1)), (by first | rfl | (simp; done) | (simp only [← hji42] <;> (first | rfl | simp)) | (simp [*]; done)), (zzh), H', ⟨by have := HK1.out; omega⟩, ⟨by refine zzr ?_; exact HO_5.out⟩, ⟨by refine zzk ?_; exact BK185.out⟩, ⟨zzg⟩⟩
              ·rw [if_neg c41] at H
               exact absurd H (by simp)
             ·rw [if_neg c40] at H
              have c40b0 : (t204 == 1) = false := beq_eq_false_iff_ne.mpr c40
              have c40b1 : (t204 != 1) = true := bne_iff_ne.mpr c40
              have H' := zz H
              clear H
              obtain ⟨Ao45, co45, eo45⟩ := Kd.R_slice HO_5.out
              subst eo45
              have p203 : 0 ≤ (x6_1 : Int) := of_decide_eq_true zzm
              have q203 : x6_1 < (t200.length : Int) := of_decide_eq_true zzm
              obtain ⟨ad203, e203, hx203_0⟩ := Kd.at_int (Kd.R_reads' HO_5.out).2.2 x6_1 p203 q203
              cases e203
              replace p203 := eq_true p203
              replace q203 := eq_true q203
              obtain ⟨hcz46_0, hcz46_1, hcz46_2, hcz46_3, hcz46_4⟩ := zzc5 BK185.out (.int .i64 a0_0) (.int .i64 a0_1) (.int .i64 a0_2) (.int .i64 a0_3) (.int .i64 a0_4)
              obtain ⟨hfz46_0, hfz46_1, hfz46_2, hfz46_3, hfz46_4⟩ := zzf5 BK185.out
              go_wp2_with (first | (go_at_call 81; (with_reducible refine (r01_Bit.calls ((a0_4) % 4294967296) x6_1 t204 _ A39.out).mono ?_); rintro e w' ⟨rfl, ⟨nd, rfl⟩⟩))
              go_roundg k1
              case measure => have := HK1.out; omega
              case rel => exact ⟨(x4_1), (wrap64 (x6_1 + 1)), (zzh), (zzh), H', ⟨by have := HK1.out; omega⟩, ⟨by refine zzr ?_; exact HO_5.out⟩, ⟨by refine zzk ?_; exact BK185.out⟩, ⟨zzg⟩⟩
            ·rw [if_neg c38] at H
             have c38b0 : decide (0 ≤ (rd t200 x6_1)) = false := decide_eq_false c38
             clear c38
             have H' := zz H
             clear H
             obtain ⟨Ao47, co47, eo47⟩ := Kd.R_slice HO_5.out
             subst eo47
             have p203 : 0 ≤ (x6_1 : Int) := of_decide_eq_true zzm
             have q203 : x6_1 < (t200.length : Int) := of_decide_eq_true zzm
             obtain ⟨ad203, e203, hx203_0⟩ := Kd.at_int (Kd.R_reads' HO_5.out).2.2 x6_1 p203 q203
             cases e203
             replace p203 := eq_true p203
             replace q203 := eq_true q203
             go_wp2
             go_roundg k1
             case measure => have := HK1.out; omega
             case rel => exact ⟨(x4_1), (wrap64 (x6_1 + 1)), (zzh), (zzh), H', ⟨by have := HK1.out; omega⟩, ⟨by refine zzr ?_; exact HO_5.out⟩, ⟨by refine zzk ?_; exact BK185.out⟩, ⟨zzg⟩⟩
           ·rw [if_neg c37] at H
            exact absurd H (by simp)
          ·rw [if_neg c36] at H
           have c36b0 : decide (x6_1 < (t200.length : Int)) = false := decide_eq_false c36
           clear c36
           simp only [Option.some.injEq, Prod.mk.injEq] at H
           obtain ⟨rfl, rfl⟩ := H
           obtain ⟨Ao48, co48, eo48⟩ := Kd.R_slice HO_5.out
           subst eo48
           go_wp2
           go_ret2
           exact ⟨zze, zzg⟩
       ·rw [if_neg c20] at H
        exact absurd H (by simp)
      ·rw [if_neg c18] at H
       exact absurd H (by simp)
     ·rw [if_neg c16] at H
      exact absurd H (by simp)
    ·rw [if_neg c15] at H
     exact absurd H (by simp)
 ·replace c3 := Bool.eq_false_iff.mpr c3
  subst c3
  have H1 : (some (0, 20)) = some (r1, r2) := by rw [if_neg (show ¬ (false = true) by decide)] at H; exact H
  clear H
  have H := H1
  clear H1
  simp only [Option.some.injEq, Prod.mk.injEq] at H
  obtain ⟨rfl, rfl⟩ := H
  go_enter Try.func63, Try.ntmps63
  go_wp2_with (first | ((with_reducible refine gate_dst (N := 1) rfl ?_); refine box_event ?hg (N := 1) ?hd (cs := #[.int .i64 a0_0, .int .i64 a0_1, .int .i64 a0_2, .int .i64 a0_3, .int .i64 a0_4]) (t := 23) ?hr ?_; (case hd => rfl); (case hg => rfl); (case hr => first | (go_simp; done) | (go_simp; rfl)); intro gb185 hg w49 hbox hb; have n0_ := zz (below_step zzb hb); have n1_ := zz (hbox); have n2_ := zz ((zzn hg : w.heap.size ≤ gb185)); have n3_ := zz ((zzn hg : w.heap.size ≤ gb185)); clear HB; have HB := n0_; have BK185 := n1_; have GW185 := n2_; have GE185 := n3_; clear n0_ n1_ n2_ n3_; clear hb hbox hg; obtain ⟨hcz50_0, hcz50_1, hcz50_2, hcz50_3, hcz50_4⟩ := zzc5 BK185.out (.int .i64 a0_0) (.int .i64 a0_1) (.int .i64 a0_2) (.int .i64 a0_3) (.int .i64 a0_4); obtain ⟨hfz50_0, hfz50_1, hfz50_2, hfz50_3, hfz50_4⟩ := zzf5 BK185.out) | ((with_reducible refine gate_callee (f := 30) rfl ?_); refine goesL_ (some 8) rfl rfl Try.func30 (by kernel_rfl) rfl #[.agg #[.int .i64 a0_0, .int .i64 a0_1, .int .i64 a0_2, .int .i64 a0_3, .int .i64 a0_4]] rfl zza ?_; (with_reducible refine (r02_Right.calls k a0_0 a0_1 a0_2 a0_3 a0_4 false _ A2.out).mono ?_); rintro e w51 ⟨rfl, hb⟩; refine ⟨_, rfl, ?_⟩; have n0_ := zz (zzkb BK185.out hb); have n1_ := zz (below_step zzg hb); clear BK185; clear HB; have BK185 := n0_; have HB := n1_; clear n0_ n1_; (try clear hb); (try clear hb2); (try clear hk); (try clear hi)))
  go_ret2
  exact ⟨zze, zzg⟩
end Go.Proofs.Ytekenddkoahjgaa.Q
