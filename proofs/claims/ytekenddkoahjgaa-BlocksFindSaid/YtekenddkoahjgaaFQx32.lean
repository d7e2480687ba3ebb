import Derived.Test.YtekenddkoahjgaaFZc
import Derived.Test.YtekenddkoahjgaaFQx3
import Derived.Test.YtekenddkoahjgaaFQx15
import Derived.Test.YtekenddkoahjgaaFQx17
import Derived.Test.YtekenddkoahjgaaFQx11
section
namespace Go.Proofs.Ytekenddkoahjgaa.Q
open Go.RowKit Go.Proofs.YtekenddkoahjgaaW.PrintWords Go.Proofs.YtekenddkoahjgaaW.PrintLast Go.Proofs.YtekenddkoahjgaaW.PrintMore
attribute [local go_sem] max2_int min2_int max_two min_two max_three min_three max_four min_four
attribute [local go_sem] imax_u32 imax_u8 isg_u32 isg_u8
set_option linter.unusedVariables false
set_option linter.unusedSimpArgs false
def whetstoneref02_Decode.l0 : Nat → Int → Int → Option (Int × Int × Int × Int × Int × Int)
 | 0, _, _ => none
 | k + 1, x0, x4 => if x4 < 47 then ((whetstoneref02_try.f k x4 x0).bind fun bt207 => ((whetstoneref02_Encode.f k bt207.1 bt207.2.1 bt207.2.2.1 bt207.2.2.2.1 bt207.2.2.2.2).bind fun bt213 => (if bt213.2 = 0 then (if bt213.1 = x0 then (some (bt207.1, bt207.2.1, bt207.2.2.1, bt207.2.2.2.1, bt207.2.2.2.2, 0)) else (whetstoneref02_Decode.l0 k x0 (wrap64 (x4 + 1)))) else (whetstoneref02_Decode.l0 k x0 (wrap64 (x4 + 1)))))) else (some (0, 0, 0, 0, 0, 20))
def whetstoneref02_Decode.f (k : Nat) (a0 : Int) : Option (Int × Int × Int × Int × Int × Int) := whetstoneref02_Decode.l0 k a0 0
set_option maxHeartbeats 8000000 in
set_option maxRecDepth 100000 in
theorem whetstoneref02_Decode.calls (k : Nat) (a0 : Int) (r1 : Int) (r2 : Int) (r3 : Int) (r4 : Int) (r5 : Int) (r6 : Int) (w : World) (h : whetstoneref02_Decode.f k a0 = some (r1, r2, r3, r4, r5, r6)) :
  Calls Try.prog 45 #[.int .u32 a0] w fun e w' => e = .returned (.tuple #[.agg #[.int .i64 r1, .int .i64 r2, .int .i64 r3, .int .i64 r4, .int .i64 r5], .int .i64 r6]) ∧ Below w.heap.size w w' := by
 have hu23 := Try.underlying23
 have HB := Aside0.mk (Below.refl w.heap.size w)
 have H : (whetstoneref02_Decode.l0 k a0 0) = some (r1, r2, r3, r4, r5, r6) := h
 clear h
 have H' := Aside0.mk H
 clear H
 go_enter Try.func45, Try.ntmps45
 go_wp2_with (first | ((with_reducible refine gate_dst (N := 2) rfl ?_); refine box_event ?hg (N := 2) ?hd (cs := #[.int .i64 0, .int .i64 0, .int .i64 0, .int .i64 0, .int .i64 0]) (t := 23) ?hr ?_; (case hd => rfl); (case hg => rfl); (case hr => first | (go_simp; done) | (go_simp; rfl)); intro gb206 hg w2 hbox hb; have n0_ := Aside0.mk (below_step zzb hb); have n1_ := Aside0.mk (hbox); have n2_ := Aside0.mk ((by rw [hg]; exact (below_size zzb) : w.heap.size ≤ gb206)); have n3_ := Aside0.mk ((by rw [hg]; exact (below_size zzb) : w.heap.size ≤ gb206)); clear HB; have HB := n0_; have BK206 := n1_; have GW206 := n2_; have GE206 := n3_; clear n0_ n1_ n2_ n3_; clear hb hbox hg))
 go_loopg [4] k (fun kq v4 w' => ∃ (x4_1 : Int) (x207000_1 : Int) (x207001_1 : Int) (x207002_1 : Int) (x207003_1 : Int) (x207004_1 : Int), v4 = .int .i64 x4_1 ∧ Aside0 (whetstoneref02_Decode.l0 kq a0 x4_1 = some (r1, r2, r3, r4, r5, r6)) ∧ Aside0 (kq ≤ k) ∧ Aside0 (w'.heap[gb206]? = some (.cells #[.int .i64 x207000_1, .int .i64 x207001_1, .int .i64 x207002_1, .int .i64 x207003_1, .int .i64 x207004_1] 23 (0, 0))) ∧ Aside0 (Below w.heap.size w w'))
 case atStart => exact ⟨(0), (0), (0), (0), (0), (0), (by first | rfl | (simp; done) | (simp [*]; done)), H', ⟨Nat.le_refl _⟩, ⟨by refine zzk ?_; exact BK206.out⟩, ⟨by repeat (first | (with_reducible first | exact HB.out | apply below_alloc | apply pw_below_drewN | apply below_drew1 | refine below_set ?_ GE206.out) | exact HB.out)⟩⟩
 case round =>
  clear H'
  try clear p2
  obtain ⟨x4_1, x207000_1, x207001_1, x207002_1, x207003_1, x207004_1, rfl, HA, HK1, BK206, HB⟩ := hrel
  cases gk with
  | zero => exact absurd HA.out (by simp [whetstoneref02_Decode.l0])
  | succ k1 =>
   have H := HA.out
   clear HA
   simp only [whetstoneref02_Decode.l0] at H
   by_cases c3 : x4_1 < 47
   ·rw [if_pos c3] at H
    have c3b0 : decide (x4_1 < 47) = true := decide_eq_true c3
    clear c3
    replace H := Option.bind_eq_some_iff.mp H
    obtain ⟨⟨t207, t208, t209, t210, t211⟩, A40, H⟩ := H
    replace H : ((whetstoneref02_Encode.f k1 t207 t208 t209 t210 t211).bind fun bt213 => (if bt213.2 = 0 then (if bt213.1 = a0 then (some (t207, t208, t209, t210, t211, 0)) else (whetstoneref02_Decode.l0 k1 a0 (wrap64 (x4_1 + 1)))) else (whetstoneref02_Decode.l0 k1 a0 (wrap64 (x4_1 + 1))))) = some (r1, r2, r3, r4, r5, r6) := H
    have A4 := Aside0.mk A40
    clear A40
    replace H := Option.bind_eq_some_iff.mp H
    obtain ⟨⟨t213, t214⟩, A50, H⟩ := H
    replace H : (if t214 = 0 then (if t213 = a0 then (some (t207, t208, t209, t210, t211, 0)) else (whetstoneref02_Decode.l0 k1 a0 (wrap64 (x4_1 + 1)))) else (whetstoneref02_Decode.l0 k1 a0 (wrap64 (x4_1 + 1)))) = some (r1, r2, r3, r4, r5, r6) := H
    have A5 := Aside0.mk A50
    clear A50
    by_cases c6 : t214 = 0
    ·rw [if_pos c6] at H
     have c6b0 : (t214 == 0) = true := beq_iff_eq.mpr c6
     have c6b1 : (t214 != 0) = false := bne_eq_false_iff_eq.mpr c6
     clear c6
     by_cases c7 : t213 = a0
     ·rw [if_pos c7] at H
      have c7b0 : (t213 == a0) = true := beq_iff_eq.mpr c7
      have c7b1 : (t213 != a0) = false := bne_eq_false_iff_eq.mpr c7
      clear c7
      simp only [Option.some.injEq, Prod.mk.injEq] at H
      obtain ⟨rfl, rfl, rfl, rfl, rfl, rfl⟩ := H
      go_wp2_with (first | ((with_reducible refine gate_callee (f := 62) rfl ?_); refine goesL_ (some 14) rfl rfl Try.func62 (by kernel_rfl) rfl #[.int .i64 x4_1, .int .u32 a0] rfl zza ?_; (with_reducible refine (whetstoneref02_try.calls k1 x4_1 a0 t207 t208 t209 t210 t211 _ A4.out).mono ?_); rintro e w8 ⟨rfl, hb⟩; refine ⟨_, rfl, ?_⟩; have n0_ := Aside0.mk (zzkb BK206.out hb); have n1_ := Aside0.mk (below_step zzg hb); clear BK206; clear HB; have BK206 := n0_; have HB := n1_; clear n0_ n1_; (try clear hb); (try clear hb2); (try clear hk); (try clear hi)) | ((with_reducible refine gate_dst (N := 5) rfl ?_); refine box_event ?hg (N := 5) ?hd (cs := #[.int .i64 0, .int .i64 0, .int .i64 0, .int .i64 0, .int .i64 0]) (t := 23) ?hr ?_; (case hd => rfl); (case hg => rfl); (case hr => first | (go_simp; done) | (go_simp; rfl)); intro gb212 hg w9 hbox hb; have n0_ := Aside0.mk (zzkb BK206.out hb); have n1_ := Aside0.mk (below_step zzg hb); have n2_ := Aside0.mk (hbox); have n3_ := Aside0.mk ((by rw [hg]; exact (below_size zzg) : w.heap.size ≤ gb212)); have n4_ := Aside0.mk ((by rw [hg]; exact (below_size zzg) : w.heap.size ≤ gb212)); have n5_ := Aside0.mk ((by rw [hg]; exact Nat.ne_of_lt (zzkl BK206.out) : gb206 ≠ gb212)); have n6_ := Aside0.mk ((by rw [hg]; exact Nat.ne_of_gt (zzkl BK206.out) : gb212 ≠ gb206)); clear BK206; clear HB; have BK206 := n0_; have HB := n1_; have BK212 := n2_; have GW212 := n3_; have GE212 := n4_; have NB206_212 := n5_; have NB212_206 := n6_; clear n0_ n1_ n2_ n3_ n4_ n5_ n6_; clear hb hbox hg; have hnb10 := NB212_206.out; have hnc10 := NB206_212.out; obtain ⟨hcz11_0, hcz11_1, hcz11_2, hcz11_3, hcz11_4⟩ := zzc5 BK212.out (.int .i64 0) (.int .i64 0) (.int .i64 0) (.int .i64 0) (.int .i64 0); obtain ⟨hfz11_0, hfz11_1, hfz11_2, hfz11_3, hfz11_4⟩ := zzf5 BK212.out) | ((with_reducible refine gate_callee (f := 63) rfl ?_); refine goesL_ (some 17) rfl rfl Try.func63 (by kernel_rfl) rfl #[.agg #[.int .i64 t207, .int .i64 t208, .int .i64 t209, .int .i64 t210, .int .i64 t211]] rfl zza ?_; (with_reducible refine (whetstoneref02_Encode.calls k1 t207 t208 t209 t210 t211 t213 t214 _ A5.out).mono ?_); rintro e w12 ⟨rfl, hb⟩; refine ⟨_, rfl, ?_⟩; have n0_ := Aside0.mk (blk_below (g := gb206) (o := .cells #[.int .i64 x207000_1, .int .i64 x207001_1, .int .i64 x207002_1, .int .i64 x207003_1, .int .i64 x207004_1] 23 (0, 0)) (by refine zzk ?_; refine blk_far ?_ NB206_212.out _; refine zzk ?_; refine blk_far ?_ NB206_212.out _; refine zzk ?_; refine blk_far ?_ NB206_212.out _; refine zzk ?_; refine blk_far ?_ NB206_212.out _; refine zzk ?_; refine blk_far ?_ NB206_212.out _; refine zzk ?_; exact BK206.out) hb); have n1_ := Aside0.mk (blk_below (g := gb212) (o := .cells #[.int .i64 t207, .int .i64 t208, .int .i64 t209, .int .i64 t210, .int .i64 t211] 23 (0, 0)) (by refine zzk ?_; refine blk_put (cs := #[.int .i64 t207, .int .i64 t208, .int .i64 t209, .int .i64 t210, .int .i64 0]) ?_ 4 _ rfl; refine zzk ?_; refine blk_put (cs := #[.int .i64 t207, .int .i64 t208, .int .i64 t209, .int .i64 0, .int .i64 0]) ?_ 3 _ rfl; refine zzk ?_; refine blk_put (cs := #[.int .i64 t207, .int .i64 t208, .int .i64 0, .int .i64 0, .int .i64 0]) ?_ 2 _ rfl; refine zzk ?_; refine blk_put (cs := #[.int .i64 t207, .int .i64 0, .int .i64 0, .int .i64 0, .int .i64 0]) ?_ 1 _ rfl; refine zzk ?_; refine blk_put (cs := #[.int .i64 0, .int .i64 0, .int .i64 0, .int .i64 0, .int .i64 0]) ?_ 0 _ rfl; refine zzk ?_; exact BK212.out) hb); have n2_ := Aside0.mk (below_step zzg hb); clear BK206; clear BK212; clear HB; have BK206 := n0_; have BK212 := n1_; have HB := n2_; clear n0_ n1_ n2_; (try clear hb); (try clear hb2); (try clear hk); (try clear hi); obtain ⟨hcz13_0, hcz13_1, hcz13_2, hcz13_3, hcz13_4⟩ := zzc5 BK212.out (.int .i64 t207) (.int .i64 t208) (.int .i64 t209) (.int .i64 t210) (.int .i64 t211); obtain ⟨hfz13_0, hfz13_1, hfz13_2, hfz13_3, hfz13_4⟩ := zzf5 BK212.out; obtain ⟨hcz14_0, hcz14_1, hcz14_2, hcz14_3, hcz14_4⟩ := zzc5 BK206.out (.int .i64 x207000_1) (.int .i64 x207001_1) (.int .i64 x207002_1) (.int .i64 x207003_1) (.int .i64 x207004_1); obtain ⟨hfz14_0, hfz14_1, hfz14_2, hfz14_3, hfz14_4⟩ := zzf5 BK206.out))
      refine bodyPost_ret (results_ct rfl _ _ gb206 23 #[.int .i64 t207, .int .i64 t208, .int .i64 t209, .int .i64 t210, .int .i64 t211] (0, 0) _ rfl (by refine zzk ?_; refine blk_put (cs := #[.int .i64 t207, .int .i64 t208, .int .i64 t209, .int .i64 t210, .int .i64 x207004_1]) ?_ 4 _ rfl; refine zzk ?_; refine blk_put (cs := #[.int .i64 t207, .int .i64 t208, .int .i64 t209, .int .i64 x207003_1, .int .i64 x207004_1]) ?_ 3 _ rfl; refine zzk ?_; refine blk_put (cs := #[.int .i64 t207, .int .i64 t208, .int .i64 x207002_1, .int .i64 x207003_1, .int .i64 x207004_1]) ?_ 2 _ rfl; refine zzk ?_; refine blk_put (cs := #[.int .i64 t207, .int .i64 x207001_1, .int .i64 x207002_1, .int .i64 x207003_1, .int .i64 x207004_1]) ?_ 1 _ rfl; refine zzk ?_; refine blk_put (cs := #[.int .i64 x207000_1, .int .i64 x207001_1, .int .i64 x207002_1, .int .i64 x207003_1, .int .i64 x207004_1]) ?_ 0 _ rfl; refine zzk ?_; exact BK206.out) Try.underlying23 rfl (by kernel_rfl)) rfl ?_
      exact ⟨by first | rfl | (simp [errW_none, errW_some] <;> rfl) | (simp [*, errW_none, errW_some] <;> rfl), by repeat (first | (with_reducible first | exact HB.out | apply below_alloc | apply pw_below_drewN | apply below_drew1 | refine below_set ?_ GE206.out | refine below_set ?_ GE212.out) | exact HB.out)⟩
     ·rw [if_neg c7] at H
      have c7b0 : (t213 == a0) = false := beq_eq_false_iff_ne.mpr c7
      have c7b1 : (t213 != a0) = true := bne_iff_ne.mpr c7
      have H' := Aside0.mk H
      clear H
      go_wp2_with (first | ((with_reducible refine gate_callee (f := 62) rfl ?_); refine goesL_ (some 14) rfl rfl Try.func62 (by kernel_rfl) rfl #[.int .i64 x4_1, .int .u32 a0] rfl zza ?_; (with_reducible refine (whetstoneref02_try.calls k1 x4_1 a0 t207 t208 t209 t210 t211 _ A4.out).mono ?_); rintro e w15 ⟨rfl, hb⟩; refine ⟨_, rfl, ?_⟩; have n0_ := Aside0.mk (zzkb BK206.out hb); have n1_ := Aside0.mk (below_step zzg hb); clear BK206; clear HB; have BK206 := n0_; have HB := n1_; clear n0_ n1_; (try clear hb); (try clear hb2); (try clear hk); (try clear hi)) | ((with_reducible refine gate_dst (N := 5) rfl ?_); refine box_event ?hg (N := 5) ?hd (cs := #[.int .i64 0, .int .i64 0, .int .i64 0, .int .i64 0, .int .i64 0]) (t := 23) ?hr ?_; (case hd => rfl); (case hg => rfl); (case hr => first | (go_simp; done) | (go_simp; rfl)); intro gb212 hg w16 hbox hb; have n0_ := Aside0.mk (zzkb BK206.out hb); have n1_ := Aside0.mk (below_step zzg hb); have n2_ := Aside0.mk (hbox); have n3_ := Aside0.mk ((by rw [hg]; exact (below_size zzg) : w.heap.size ≤ gb212)); have n4_ := Aside0.mk ((by rw [hg]; exact (below_size zzg) : w.heap.size ≤ gb212)); have n5_ := Aside0.mk ((by rw [hg]; exact Nat.ne_of_lt (zzkl BK206.out) : gb206 ≠ gb212)); have n6_ := Aside0.mk ((by rw [hg]; exact Nat.ne_of_gt (zzkl BK206.out) : gb212 ≠ gb206)); clear BK206; clear HB; have BK206 := n0_; have HB := n1_; have BK212 := n2_; have GW212 := n3_; have GE212 := n4_; have NB206_212 := n5_; have NB212_206 := n6_; clear n0_ n1_ n2_ n3_ n4_ n5_ n6_; clear hb hbox hg; have hnb17 := NB212_206.out; have hnc17 := NB206_212.out; obtain ⟨hcz18_0, hcz18_1, hcz18_2, hcz18_3, hcz18_4⟩ := zzc5 BK212.out (.int .i64 0) (.int .i64 0) (.int .i64 0) (.int .i64 0) (.int .i64 0); obtain ⟨hfz18_0, hfz18_1, hfz18_2, hfz18_3, hfz18_4⟩ := zzf5 BK212.out) | ((with_reducible refine gate_callee (f := 63) rfl ?_); refine goesL_ (some 17) rfl rfl Try.func63 (by kernel_rfl) rfl #[.agg #[.int .i64 t207, .int .i64 t208, .int .i64 t209, .int .i64 t210, .int .i64 t211]] rfl zza ?_; (with_reducible refine (whetstoneref02_Encode.calls k1 t207 t208 t209 t210 t211 t213 t214 _ A5.out).mono ?_); rintro e w19 ⟨rfl, hb⟩; refine ⟨_, rfl, ?_⟩; have n0_ := Aside0.mk (blk_below (g := gb206) (o := .cells #[.int .i64 x207000_1, .int .i64 x207001_1, .int .i64 x207002_1, .int .i64 x207003_1, .int .i64 x207004_1] 23 (0, 0)) (by refine zzk ?_; refine blk_far ?_ NB206_212.out _; refine zzk ?_; refine blk_far ?_ NB206_212.out _; refine zzk ?_; refine blk_far ?_ NB206_212.out _; refine zzk ?_; refine blk_far ?_ NB206_212.out _; refine zzk ?_; refine blk_far ?_ NB206_212.out _; refine zzk ?_; exact BK206.out) hb); have n1_ := Aside0.mk (blk_below (g := gb212) (o := .cells #[.int .i64 t207, .int .i64 t208, .int .i64 t209, .int .i64 t210, .int .i64 t211] 23 (0, 0)) (by refine zzk ?_; refine blk_put (cs := #[.int .i64 t207, .int .i64 t208, .int .i64 t209, .int .i64 t210, .int .i64 0]) ?_ 4 _ rfl; refine zzk ?_; refine blk_put (cs := #[.int .i64 t207, .int .i64 t208, .int .i64 t209, .int .i64 0, .int .i64 0]) ?_ 3 _ rfl; refine zzk ?_; refine blk_put (cs := #[.int .i64 t207, .int .i64 t208, .int .i64 0, .int .i64 0, .int .i64 0]) ?_ 2 _ rfl; refine zzk ?_; refine blk_put (cs := #[.int .i64 t207, .int .i64 0, .int .i64 0, .int .i64 0, .int .i64 0]) ?_ 1 _ rfl; refine zzk ?_; refine blk_put (cs := #[.int .i64 0, .int .i64 0, .int .i64 0, .int .i64 0, .int .i64 0]) ?_ 0 _ rfl; refine zzk ?_; exact BK212.out) hb); have n2_ := Aside0.mk (below_step zzg hb); clear BK206; clear BK212; clear HB; have BK206 := n0_; have BK212 := n1_; have HB := n2_; clear n0_ n1_ n2_; (try clear hb); (try clear hb2); (try clear hk); (try clear hi)))
      go_roundg k1
      case measure => have := HK1.out; omega
      case rel => exact ⟨(wrap64 (x4_1 + 1)), (x207000_1), (x207001_1), (x207002_1), (x207003_1), (x207004_1), (by first | rfl | (simp; done) | (simp [*]; done)), H', ⟨by have := HK1.out; omega⟩, ⟨by refine zzk ?_; exact BK206.out⟩, ⟨by repeat (first | (with_reducible first | exact HB.out | apply below_alloc | apply pw_below_drewN | apply below_drew1 | refine below_set ?_ GE206.out | refine below_set ?_ GE212.out) | exact HB.out)⟩⟩
    ·rw [if_neg c6] at H
     have c6b0 : (t214 == 0) = false := beq_eq_false_iff_ne.mpr c6
     have c6b1 : (t214 != 0) = true := bne_iff_ne.mpr c6
     have H' := Aside0.mk H
     clear H
     go_wp2_with (first | ((with_reducible refine gate_callee (f := 62) rfl ?_); refine goesL_ (some 14) rfl rfl Try.func62 (by kernel_rfl) rfl #[.int .i64 x4_1, .int .u32 a0] rfl zza ?_; (with_reducible refine (whetstoneref02_try.calls k1 x4_1 a0 t207 t208 t209 t210 t211 _ A4.out).mono ?_); rintro e w20 ⟨rfl, hb⟩; refine ⟨_, rfl, ?_⟩; have n0_ := Aside0.mk (zzkb BK206.out hb); have n1_ := Aside0.mk (below_step zzg hb); clear BK206; clear HB; have BK206 := n0_; have HB := n1_; clear n0_ n1_; (try clear hb); (try clear hb2); (try clear hk); (try clear hi)) | ((with_reducible refine gate_dst (N := 5) rfl ?_); refine box_event ?hg (N := 5) ?hd (cs := #[.int .i64 0, .int .i64 0, .int .i64 0, .int .i64 0, .int .i64 0]) (t := 23) ?hr ?_; (case hd => rfl); (case hg => rfl); (case hr => first | (go_simp; done) | (go_simp; rfl)); intro gb212 hg w21 hbox hb; have n0_ := Aside0.mk (zzkb BK206.out hb); have n1_ := Aside0.mk (below_step zzg hb); have n2_ := Aside0.mk (hbox); have n3_ := Aside0.mk ((by rw [hg]; exact (below_size zzg) : w.heap.size ≤ gb212)); have n4_ := Aside0.mk ((by rw [hg]; exact (below_size zzg) : w.heap.size ≤ gb212)); have n5_ := Aside0.mk ((by rw [hg]; exact Nat.ne_of_lt (zzkl BK206.out) : gb206 ≠ gb212)); have n6_ := Aside0.mk ((by rw [hg]; exact Nat.ne_of_gt (zzkl BK206.out) : gb212 ≠ gb206)); clear BK206; clear HB; have BK206 := n0_; have HB := n1_; have BK212 := n2_; have GW212 := n3_; have GE212 := n4_; have NB206_212 := n5_; have NB212_206 := n6_; clear n0_ n1_ n2_ n3_ n4_ n5_ n6_; clear hb hbox hg; have hnb22 := NB212_206.out; have hnc22 := NB206_212.out; obtain ⟨hcz23_0, hcz23_1, hcz23_2, hcz23_3, hcz23_4⟩ := zzc5 BK212.out (.int .i64 0) (.int .i64 0) (.int .i64 0) (.int .i64 0) (.int .i64 0); obtain ⟨hfz23_0, hfz23_1, hfz23_2, hfz23_3, hfz23_4⟩ := zzf5 BK212.out) | ((with_reducible refine gate_callee (f := 63) rfl ?_); refine goesL_ (some 17) rfl rfl Try.func63 (by kernel_rfl) rfl #[.agg #[.int .i64 t207, .int .i64 t208, .int .i64 t209, .int .i64 t210, .int .i64 t211]] rfl zza ?_; (with_reducible refine (whetstoneref02_Encode.calls k1 t207 t208 t209 t210 t211 t213 t214 _ A5.out).mono ?_); rintro e w24 ⟨rfl, hb⟩; refine ⟨_, rfl, ?_⟩; have n0_ := Aside0.mk (blk_below (g := gb206) (o := .cells #[.int .i64 x207000_1, .int .i64 x207001_1, .int .i64 x207002_1, .int .i64 x207003_1, .int .i64 x207004_1] 23 (0, 0)) (by refine zzk ?_; refine blk_far ?_ NB206_212.out _; refine zzk ?_; refine blk_far ?_ NB206_212.out _; refine zzk ?_; refine blk_far ?_ NB206_212.out _; refine zzk ?_; refine blk_far ?_ NB206_212.out _; refine zzk ?_; refine blk_far ?_ NB206_212.out _; refine zzk ?_; exact BK206.out) hb); have n1_ := Aside0.mk (blk_below (g := gb212) (o := .cells #[.int .i64 t207, .int .i64 t208, .int .i64 t209, .int .i64 t210, .int .i64 t211] 23 (0, 0)) (by refine zzk ?_; refine blk_put (cs := #[.int .i64 t207, .int .i64 t208, .int .i64 t209, .int .i64 t210, .int .i64 0]) ?_ 4 _ rfl; refine zzk ?_; refine blk_put (cs := #[.int .i64 t207, .int .i64 t208, .int .i64 t209, .int .i64 0, .int .i64 0]) ?_ 3 _ rfl; refine zzk ?_; refine blk_put (cs := #[.int .i64 t207, .int .i64 t208, .int .i64 0, .int .i64 0, .int .i64 0]) ?_ 2 _ rfl; refine zzk ?_; refine blk_put (cs := #[.int .i64 t207, .int .i64 0, .int .i64 0, .int .i64 0, .int .i64 0]) ?_ 1 _ rfl; refine zzk ?_; refine blk_put (cs := #[.int .i64 0, .int .i64 0, .int .i64 0, .int .i64 0, .int .i64 0]) ?_ 0 _ rfl; refine zzk ?_; exact BK212.out) hb); have n2_ := Aside0.mk (below_step zzg hb); clear BK206; clear BK212; clear HB; have BK206 := n0_; have BK212 := n1_; have HB := n2_; clear n0_ n1_ n2_; (try clear hb); (try clear hb2); (try clear hk); (try clear hi)))
     go_roundg k1
     case measure => have := HK1.out; omega
     case rel => exact ⟨(wrap64 (x4_1 + 1)), (x207000_1), (x207001_1), (x207002_1), (x207003_1), (x207004_1), (by first | rfl | (simp; done) | (simp [*]; done)), H', ⟨by have := HK1.out; omega⟩, ⟨by refine zzk ?_; exact BK206.out⟩, ⟨by repeat (first | (with_reducible first | exact HB.out | apply below_alloc | apply pw_below_drewN | apply below_drew1 | refine below_set ?_ GE206.out | refine below_set ?_ GE212.out) | exact HB.out)⟩⟩
   ·rw [if_neg c3] at H
    have c3b0 : decide (x4_1 < 47) = false := decide_eq_false c3
    clear c3
    simp only [Option.some.injEq, Prod.mk.injEq] at H
    obtain ⟨rfl, rfl, rfl, rfl, rfl, rfl⟩ := H
    obtain ⟨hcz25_0, hcz25_1, hcz25_2, hcz25_3, hcz25_4⟩ := zzc5 BK206.out (.int .i64 x207000_1) (.int .i64 x207001_1) (.int .i64 x207002_1) (.int .i64 x207003_1) (.int .i64 x207004_1)
    obtain ⟨hfz25_0, hfz25_1, hfz25_2, hfz25_3, hfz25_4⟩ := zzf5 BK206.out
    go_wp2
    refine bodyPost_ret (results_ct rfl _ _ gb206 23 #[.int .i64 0, .int .i64 0, .int .i64 0, .int .i64 0, .int .i64 0] (0, 0) _ rfl (by refine zzk ?_; refine blk_put (cs := #[.int .i64 0, .int .i64 0, .int .i64 0, .int .i64 0, .int .i64 x207004_1]) ?_ 4 _ rfl; refine zzk ?_; refine blk_put (cs := #[.int .i64 0, .int .i64 0, .int .i64 0, .int .i64 x207003_1, .int .i64 x207004_1]) ?_ 3 _ rfl; refine zzk ?_; refine blk_put (cs := #[.int .i64 0, .int .i64 0, .int .i64 x207002_1, .int .i64 x207003_1, .int .i64 x207004_1]) ?_ 2 _ rfl; refine zzk ?_; refine blk_put (cs := #[.int .i64 0, .int .i64 x207001_1, .int .i64 x207002_1, .int .i64 x207003_1, .int .i64 x207004_1]) ?_ 1 _ rfl; refine zzk ?_; refine blk_put (cs := #[.int .i64 x207000_1, .int .i64 x207001_1, .int .i64 x207002_1, .int .i64 x207003_1, .int .i64 x207004_1]) ?_ 0 _ rfl; refine zzk ?_; exact BK206.out) Try.underlying23 rfl (by kernel_rfl)) rfl ?_
    exact ⟨by first | rfl | (simp [errW_none, errW_some] <;> rfl) | (simp [*, errW_none, errW_some] <;> rfl), by repeat (first | (with_reducible first | exact HB.out | apply below_alloc | apply pw_below_drewN | apply below_drew1 | refine below_set ?_ GE206.out) | exact HB.out)⟩
def whetstoneref07_Words.l0 : Nat → List Int → List Int → Int → Option (Bool)
 | 0, _, _, _ => none
 | k + 1, x0, x1, x5 => if x5 < (x0.length : Int) then (if 0 ≤ x5 then (if x5 < (x1.length : Int) then (if (rd x0 x5) = (rd x1 x5) then (whetstoneref07_Words.l0 k x0 x1 (wrap64 (x5 + 1))) else (some false)) else (none)) else (none)) else (some true)
def whetstoneref07_Words.f (k : Nat) (l0 : List Int) (l1 : List Int) : Option (Bool) := if (l0.length : Int) = (l1.length : Int) then (whetstoneref07_Words.l0 k l0 l1 0) else (some false)
set_option maxHeartbeats 8000000 in
set_option maxRecDepth 100000 in
theorem whetstoneref07_Words.calls (k : Nat) (A0 : Option Addr) (c0 : Nat) (l0 : List Int) (A1 : Option Addr) (c1 : Nat) (l1 : List Int) (r : Bool) (w : World) (hr0 : Kd.C (Kd.int .u32) w A0 l0.length l0) (hc0 : l0.length ≤ c0) (hr1 : Kd.C (Kd.int .u32) w A1 l1.length l1) (hc1 : l1.length ≤ c1) (h : whetstoneref07_Words.f k l0 l1 = some r) :
  Calls Try.prog 12 #[.slice A0 l0.length c0, .slice A1 l1.length c1] w fun e w' => e = .returned (.bool r) ∧ Drawn0 w w' := by
 have HR0 := Aside0.mk hr0
 have HC0 := Aside0.mk hc0
 clear hr0 hc0
 have HR1 := Aside0.mk hr1
 have HC1 := Aside0.mk hc1
 clear hr1 hc1
 have H : (if (l0.length : Int) = (l1.length : Int) then (whetstoneref07_Words.l0 k l0 l1 0) else (some false)) = some r := h
 clear h
 by_cases c3 : (l0.length : Int) = (l1.length : Int)
 ·rw [if_pos c3] at H
  have c3b0 : ((l0.length : Int) == (l1.length : Int)) = true := beq_iff_eq.mpr c3
  have c3b1 : ((l0.length : Int) != (l1.length : Int)) = false := bne_eq_false_iff_eq.mpr c3
  have c3b2 : (l0.length == l1.length) = true := by first | simpa using c3 | (simp at c3 ⊢; omega)
  clear c3
  have H' := Aside0.mk H
  clear H
  go_enter Try.func12, Try.ntmps12
  go_wp2
  repeat (go_quiet (fail); try go_wp2)
  go_loopg [5] k (fun kq v5 w' => ∃ (x5_1 : Int), v5 = .int .i64 x5_1 ∧ Aside0 (whetstoneref07_Words.l0 kq l0 l1 x5_1 = some r) ∧ Aside0 (kq ≤ k) ∧ Drawn0 w w')
  case atStart => exact ⟨(0), (by first | rfl | (simp; done) | (simp [*]; done)), H', ⟨Nat.le_refl _⟩, by repeat (first | exact Drawn0.refl _ | apply Drawn0.step)⟩
  case round =>
   clear H'
   try clear c1
   try clear p2
   try clear c3
   try clear c3b0
   try clear c3b1
   try clear c3b2
   obtain ⟨x5_1, rfl, HA, HK1, ⟨m1, rfl⟩⟩ := hrel
   cases gk with
   | zero => exact absurd HA.out (by simp [whetstoneref07_Words.l0])
   | succ k1 =>
    have H := HA.out
    clear HA
    simp only [whetstoneref07_Words.l0] at H
    by_cases c4 : x5_1 < (l0.length : Int)
    ·rw [if_pos c4] at H
     have c4b0 : decide (x5_1 < (l0.length : Int)) = true := decide_eq_true c4
     clear c4
     by_cases c5 : 0 ≤ x5_1
     ·rw [if_pos c5] at H
      have c5b0 : decide (0 ≤ x5_1) = true := decide_eq_true c5
      clear c5
      by_cases c6 : x5_1 < (l1.length : Int)
      ·rw [if_pos c6] at H
       have c6b0 : decide (x5_1 < (l1.length : Int)) = true := decide_eq_true c6
       clear c6
       by_cases c7 : (rd l0 x5_1) = (rd l1 x5_1)
       ·rw [if_pos c7] at H
        have c7b0 : ((rd l0 x5_1) == (rd l1 x5_1)) = true := beq_iff_eq.mpr c7
        have c7b1 : ((rd l0 x5_1) != (rd l1 x5_1)) = false := bne_eq_false_iff_eq.mpr c7
        clear c7
        have H' := Aside0.mk H
        clear H
        have p215 : 0 ≤ (x5_1 : Int) := of_decide_eq_true zzm
        have q215 : x5_1 < (l0.length : Int) := of_decide_eq_true zzm
        obtain ⟨ad215, e215, hx215_0⟩ := Kd.at_int HR0.out x5_1 p215 q215
        cases e215
        replace p215 := eq_true p215
        replace q215 := eq_true q215
        have p216 : 0 ≤ (x5_1 : Int) := of_decide_eq_true zzm
        have q216 : x5_1 < (l1.length : Int) := of_decide_eq_true zzm
        obtain ⟨ad216, e216, hx216_0⟩ := Kd.at_int HR1.out x5_1 p216 q216
        cases e216
        replace p216 := eq_true p216
        replace q216 := eq_true q216
        go_wp2
        repeat (go_quiet (fail); try go_wp2)
        go_roundg k1
        case measure => have := HK1.out; omega
        case rel => exact ⟨(wrap64 (x5_1 + 1)), (by first | rfl | (simp; done) | (simp [*]; done)), H', ⟨by have := HK1.out; omega⟩, by repeat (first | exact Drawn0.refl _ | apply Drawn0.step)⟩
       ·rw [if_neg c7] at H
        have c7b0 : ((rd l0 x5_1) == (rd l1 x5_1)) = false := beq_eq_false_iff_ne.mpr c7
        have c7b1 : ((rd l0 x5_1) != (rd l1 x5_1)) = true := bne_iff_ne.mpr c7
        obtain rfl := Option.some.inj H
        have p215 : 0 ≤ (x5_1 : Int) := of_decide_eq_true zzm
        have q215 : x5_1 < (l0.length : Int) := of_decide_eq_true zzm
        obtain ⟨ad215, e215, hx215_0⟩ := Kd.at_int HR0.out x5_1 p215 q215
        cases e215
        replace p215 := eq_true p215
        replace q215 := eq_true q215
        have p216 : 0 ≤ (x5_1 : Int) := of_decide_eq_true zzm
        have q216 : x5_1 < (l1.length : Int) := of_decide_eq_true zzm
        obtain ⟨ad216, e216, hx216_0⟩ := Kd.at_int HR1.out x5_1 p216 q216
        cases e216
        replace p216 := eq_true p216
        replace q216 := eq_true q216
        go_wp2
        repeat (go_quiet (fail); try go_wp2)
        go_ret
        exact ⟨by first | rfl | (simp; done) | (simp [*]; done), by repeat (first | exact Drawn0.refl _ | apply Drawn0.step)⟩
      ·rw [if_neg c6] at H
       exact absurd H (by simp)
     ·rw [if_neg c5] at H
      exact absurd H (by simp)
    ·rw [if_neg c4] at H
     have c4b0 : decide (x5_1 < (l0.length : Int)) = false := decide_eq_false c4
     clear c4
     obtain rfl := Option.some.inj H
     go_wp2
     repeat (go_quiet (fail); try go_wp2)
     go_ret
     exact ⟨by first | rfl | (simp; done) | (simp [*]; done), by repeat (first | exact Drawn0.refl _ | apply Drawn0.step)⟩
 ·rw [if_neg c3] at H
  have c3b0 : ((l0.length : Int) == (l1.length : Int)) = false := beq_eq_false_iff_ne.mpr c3
  have c3b1 : ((l0.length : Int) != (l1.length : Int)) = true := bne_iff_ne.mpr c3
  have c3b2 : (l0.length == l1.length) = false := by first | simpa using c3 | (simp at c3 ⊢; omega)
  obtain rfl := Option.some.inj H
  go_enter Try.func12, Try.ntmps12
  go_wp2
  repeat (go_quiet (fail); try go_wp2)
  go_ret
  exact ⟨by first | rfl | (simp; done) | (simp [*]; done), by repeat (first | exact Drawn0.refl _ | apply Drawn0.step)⟩
end Go.Proofs.Ytekenddkoahjgaa.Q
end
section
namespace Go.Proofs.Ytekenddkoahjgaa.Q
open Go.RowKit Go.Proofs.YtekenddkoahjgaaW.PrintWords Go.Proofs.YtekenddkoahjgaaW.PrintLast Go.Proofs.YtekenddkoahjgaaW.PrintMore
attribute [local go_sem] max2_int min2_int max_two min_two max_three min_three max_four min_four
attribute [local go_sem] imax_u32 imax_u8 isg_u32 isg_u8
set_option linter.unusedVariables false
set_option linter.unusedSimpArgs false
def slices_Contains_uint32_uint32.f (k : Nat) (l0 : List Int) (a1 : Int) : Option (Bool) := (slices_Index_uint32_uint32.f k l0 a1).bind fun t370 => (some (decide (t370 ≥ 0)))
set_option maxHeartbeats 8000000 in
set_option maxRecDepth 100000 in
theorem slices_Contains_uint32_uint32.calls (k : Nat) (A0 : Option Addr) (c0 : Nat) (l0 : List Int) (a1 : Int) (r : Bool) (w : World) (hr0 : Kd.C (Kd.int .u32) w A0 l0.length l0) (hc0 : l0.length ≤ c0) (h : slices_Contains_uint32_uint32.f k l0 a1 = some r) :
  Calls Try.prog 43 #[.slice A0 l0.length c0, .int .u32 a1] w fun e w' => e = .returned (.bool r) ∧ Drawn0 w w' := by
 have HR0 := Aside0.mk hr0
 have HC0 := Aside0.mk hc0
 clear hr0 hc0
 have H : ((slices_Index_uint32_uint32.f k l0 a1).bind fun t370 => (some (decide (t370 ≥ 0)))) = some r := h
 clear h
 replace H := Option.bind_eq_some_iff.mp H
 obtain ⟨t370, A30, H⟩ := H
 replace H : (some (decide (t370 ≥ 0))) = some r := H
 have A3 := Aside0.mk A30
 clear A30
 obtain rfl := Option.some.inj H
 go_enter Try.func43, Try.ntmps43
 go_wp2_with (first | ((with_reducible refine gate_callee (f := 61) rfl ?_); refine goesL_ (some 7) rfl rfl Try.func61 (by kernel_rfl) rfl #[.slice A0 l0.length c0, .int .u32 a1] rfl zza ?_; (with_reducible refine (slices_Index_uint32_uint32.calls k _ _ l0 a1 t370 _ ?side1 ?side2 A3.out).mono ?_); (case side1 => repeat (first | exact HR0.out | (with_reducible refine Kd.C_alloc ?_ _) | (with_reducible refine Kd.C_drewN ?_ _) | (with_reducible refine Kd.C_drew ?_))); (case side2 => exact HC0.out); rintro e w' ⟨rfl, ⟨nd, rfl⟩⟩; refine ⟨_, rfl, ?_⟩))
 go_ret
 exact ⟨by first | rfl | (simp; done) | (simp [*]; done), by repeat (first | exact Drawn0.refl _ | apply Drawn0.step)⟩
end Go.Proofs.Ytekenddkoahjgaa.Q
end
