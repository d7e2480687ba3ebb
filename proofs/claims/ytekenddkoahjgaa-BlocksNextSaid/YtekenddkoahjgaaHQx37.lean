import Derived.Test.YtekenddkoahjgaaHZc
import Derived.Test.YtekenddkoahjgaaHQx5
import Derived.Test.YtekenddkoahjgaaHQx16
import Derived.Test.YtekenddkoahjgaaHQx17
import Derived.Test.YtekenddkoahjgaaHQx9
import Derived.Test.YtekenddkoahjgaaHQx32
import Derived.Test.YtekenddkoahjgaaHQx33
namespace Go.Proofs.Ytekenddkoahjgaa.Q
open Go.RowKit Go.Proofs.YtekenddkoahjgaaW.PrintWords Go.Proofs.YtekenddkoahjgaaW.PrintLast Go.Proofs.YtekenddkoahjgaaW.PrintMore
attribute [local go_sem] max2_int min2_int max_two min_two max_three min_three max_four min_four
attribute [local go_sem] imax_u32 imax_u8 isg_u32 isg_u8
set_option linter.unusedVariables false
set_option linter.unusedSimpArgs false
def r02_Decode.l0 : Nat → Int → Int → Option (Int × Int × Int × Int × Int × Int)
 | 0, _, _ => none
 | k + 1, x0, x4 => if x4 < 47 then ((r02_try.f k x4 x0).bind fun bt207 => ((r02_Encode.f k bt207.1 bt207.2.1 bt207.2.2.1 bt207.2.2.2.1 bt207.2.2.2.2).bind fun bt213 => (if bt213.2 = 0 then (if bt213.1 = x0 then (some (bt207.1, bt207.2.1, bt207.2.2.1, bt207.2.2.2.1, bt207.2.2.2.2, 0)) else (r02_Decode.l0 k x0 (wrap64 (x4 + 1)))) else (r02_Decode.l0 k x0 (wrap64 (x4 + 1)))))) else (some (0, 0, 0, 0, 0, 20))
def r02_Decode.f (k : Nat) (a0 : Int) : Option (Int × Int × Int × Int × Int × Int) := r02_Decode.l0 k a0 0
set_option maxHeartbeats 8000000 in
set_option maxRecDepth 100000 in
theorem r02_Decode.calls (k : Nat) (a0 : Int) (r1 : Int) (r2 : Int) (r3 : Int) (r4 : Int) (r5 : Int) (r6 : Int) (w : World) (h : r02_Decode.f k a0 = some (r1, r2, r3, r4, r5, r6)) :
  Calls Try.prog 45 #[.int .u32 a0] w fun e w' => e = .returned (.tuple #[.agg #[.int .i64 r1, .int .i64 r2, .int .i64 r3, .int .i64 r4, .int .i64 r5], .int .i64 r6]) ∧ Below w.heap.size w w' := by
 have hu23 := Try.underlying23
 have HB := zz (Below.refl w.heap.size w)
 have H : (r02_Decode.l0 k a0 0) = some (r1, r2, r3, r4, r5, r6) := h
 clear h
 have H' := zz H
 clear H
 go_enter Try.func45, Try.ntmps45
 go_wp2_with (first | ((with_reducible refine gate_dst (N := 2) rfl ?_); refine box_event ?hg (N := 2) ?hd (cs := #[.int .i64 0, .int .i64 0, .int .i64 0, .int .i64 0, .int .i64 0]) (t := 23) ?hr ?_; (case hd => rfl); (case hg => rfl); (case hr => first | (go_simp; done) | (go_simp; rfl)); intro gb206 hg w2 hbox hb; have n0_ := zz (below_step zzb hb); have n1_ := zz (hbox); have n2_ := zz ((zzn hg : w.heap.size ≤ gb206)); have n3_ := zz ((zzn hg : w.heap.size ≤ gb206)); clear HB; have HB := n0_; have BK206 := n1_; have GW206 := n2_; have GE206 := n3_; clear n0_ n1_ n2_ n3_; clear hb hbox hg))
 go_loopg [4] k (fun kq v4 w' => ∃ (x4_1 : Int) (x207000_1 : Int) (x207001_1 : Int) (x207002_1 : Int) (x207003_1 : Int) (x207004_1 : Int), v4 = .int .i64 x4_1 ∧ Aside0 (r02_Decode.l0 kq a0 x4_1 = some (r1, r2, r3, r4, r5, r6)) ∧ Aside0 (kq ≤ k) ∧ Aside0 (w'.heap[gb206]? = some (.cells #[.int .i64 x207000_1, .int .i64 x207001_1, .int .i64 x207002_1, .int .i64 x207003_1, .int .i64 x207004_1] 23 (0, 0))) ∧ Aside0 (Below w.heap.size w w'))
 case atStart => exact ⟨(0), (0), (0), (0), (0), (0), (zzh), H', ⟨Nat.le_refl _⟩, ⟨by refine zzk ?_; exact BK206.out⟩, ⟨zzg⟩⟩
 case round =>
  clear H'
  try clear p2
  obtain ⟨x4_1, x207000_1, x207001_1, x207002_1, x207003_1, x207004_1, rfl, HA, HK1, BK206, HB⟩ := hrel
  cases gk with
  | zero => exact absurd HA.out (by simp [r02_Decode.l0])
  | succ k1 =>
   have H := HA.out
   clear HA
   simp only [r02_Decode.l0] at H
   by_cases c3 : x4_1 < 47
   ·rw [if_pos c3] at H
    have c3b0 : decide (x4_1 < 47) = true := decide_eq_true c3
    clear c3
    replace H := Option.bind_eq_some_iff.mp H
    obtain ⟨⟨t207, t208, t209, t210, t211⟩, A40, H⟩ := H
    replace H : ((r02_Encode.f k1 t207 t208 t209 t210 t211).bind fun bt213 => (if bt213.2 = 0 then (if bt213.1 = a0 then (some (t207, t208, t209, t210, t211, 0)) else (r02_Decode.l0 k1 a0 (wrap64 (x4_1 + 1)))) else (r02_Decode.l0 k1 a0 (wrap64 (x4_1 + 1))))) = some (r1, r2, r3, r4, r5, r6) := H
    have A4 := zz A40
    clear A40
    replace H := Option.bind_eq_some_iff.mp H
    obtain ⟨⟨t213, t214⟩, A50, H⟩ := H
    replace H : (if t214 = 0 then (if t213 = a0 then (some (t207, t208, t209, t210, t211, 0)) else (r02_Decode.l0 k1 a0 (wrap64 (x4_1 + 1)))) else (r02_Decode.l0 k1 a0 (wrap64 (x4_1 + 1)))) = some (r1, r2, r3, r4, r5, r6) := H
    have A5 := zz A50
    clear A50
    by_cases c6 : t214 = 0
    ·rw [if_pos c6] at H
     have c6b0 : (t214 == 0) = true := beq_iff_eq.mpr c6
     have c6b1 : (t214 != 0) = false := bne_eq_false_iff_eq.mpr c6
     clear c6
     by_cases c7 : t213 = a0
     ·rw [if_pos c7] at H
      have c7b0 : (t213 == a0) = true := beq_iff_eq.mpr c7
      have c7b1 : (t213 != a0) = false := bne_eq_false_iff_eq.mpr c7
      clear c7
      simp only [Option.some.injEq, Prod.mk.injEq] at H
      obtain ⟨rfl, rfl, rfl, rfl, rfl, rfl⟩ := H
      go_wp2_with (first | ((with_reducible refine gate_callee (f := 62) rfl ?_); refine goesL_ (some 14) rfl rfl Try.func62 (by kernel_rfl) rfl #[.int .i64 x4_1, .int .u32 a0] rfl zza ?_; (with_reducible refine (r02_try.calls k1 x4_1 a0 t207 t208 t209 t210 t211 _ A4.out).mono ?_); rintro e w8 ⟨rfl, hb⟩; refine ⟨_, rfl, ?_⟩; have n0_ := zz (zzkb BK206.out hb); have n1_ := zz (below_step zzg hb); clear BK206; clear HB; have BK206 := n0_; have HB := n1_; clear n0_ n1_; (try clear hb); (try clear hb2); (try clear hk); (try clear hi)) | ((with_reducible refine gate_dst (N := 5) rfl ?_); refine box_event ?hg (N := 5) ?hd (cs := #[.int .i64 0, .int .i64 0, .int .i64 0, .int .i64 0, .int .i64 0]) (t := 23) ?hr ?_; (case hd => rfl); (case hg => rfl); (case hr => first | (go_simp; done) | (go_simp; rfl)); intro gb212 hg w9 hbox hb; have n0_ := zz (zzkb BK206.out hb); have n1_ := zz (below_step zzg hb); have n2_ := zz (hbox); have n3_ := zz ((zzn hg : w.heap.size ≤ gb212)); have n4_ := zz ((zzn hg : w.heap.size ≤ gb212)); have n5_ := zz ((zzx hg BK206.out : gb206 ≠ gb212)); have n6_ := zz ((zzy hg BK206.out : gb212 ≠ gb206)); clear BK206; clear HB; have BK206 := n0_; have HB := n1_; have BK212 := n2_; have GW212 := n3_; have GE212 := n4_; have NB206_212 := n5_; have NB212_206 := n6_; clear n0_ n1_ n2_ n3_ n4_ n5_ n6_; clear hb hbox hg; have hnb10 := NB212_206.out; have hnc10 := NB206_212.out; obtain ⟨hcz11_0, hcz11_1, hcz11_2, hcz11_3, hcz11_4⟩ := zzc5 BK212.out (.int .i64 0) (.int .i64 0) (.int .i64 0) (.int .i64 0) (.int .i64 0); obtain ⟨hfz11_0, hfz11_1, hfz11_2, hfz11_3, hfz11_4⟩ := zzf5 BK212.out) | ((with_reducible refine gate_callee (f := 63) rfl ?_); refine goesL_ (some 17) rfl rfl Try.func63 (by kernel_rfl) rfl #[.agg #[.int .i64 t207, .int .i64 t208, .int .i64 t209, .int .i64 t210, .int .i64 t211]] rfl zza ?_; (with_reducible refine (r02_Encode.calls k1 t207 t208 t209 t210 t211 t213 t214 _ A5.out).mono ?_); rintro e w12 ⟨rfl, hb⟩; refine ⟨_, rfl, ?_⟩; have n0_ := zz (blk_below (g := gb206) (o := .cells #[.int .i64 x207000_1, .int .i64 x207001_1, .int .i64 x207002_1, .int .i64 x207003_1, .int .i64 x207004_1] 23 (0, 0)) (by refine zzk ?_; refine blk_far ?_ NB206_212.out _; refine zzk ?_; refine blk_far ?_ NB206_212.out _; refine zzk ?_; refine blk_far ?_ NB206_212.out _; refine zzk ?_; refine blk_far ?_ NB206_212.out _; refine zzk ?_; refine blk_far ?_ NB206_212.out _; refine zzk ?_; exact BK206.out) hb); have n1_ := zz (blk_below (g := gb212) (o := .cells #[.int .i64 t207, .int .i64 t208, .int .i64 t209, .int .i64 t210, .int .i64 t211] 23 (0, 0)) (by refine zzk ?_; refine blk_put (cs := #[.int .i64 t207, .int .i64 t208, .int .i64 t209, .int .i64 t210, .int .i64 0]) ?_ 4 _ rfl; refine zzk ?_; refine blk_put (cs := #[.int .i64 t207, .int .i64 t208, .int .i64 t209, .int .i64 0, .int .i64 0]) ?_ 3 _ rfl; refine zzk ?_; refine blk_put (cs := #[.int .i64 t207, .int .i64 t208, .int .i64 0, .int .i64 0, .int .i64 0]) ?_ 2 _ rfl; refine zzk ?_; refine blk_put (cs := #[.int .i64 t207, .int .i64 0, .int .i64 0, .int .i64 0, .int .i64 0]) ?_ 1 _ rfl; refine zzk ?_; refine blk_put (cs := #[.int .i64 0, .int .i64 0, .int .i64 0, .int .i64 0, .int .i64 0]) ?_ 0 _ rfl; refine zzk ?_; exact BK212.out) hb); have n2_ := zz (below_step zzg hb); clear BK206; clear BK212; clear HB; have BK206 := n0_; have BK212 := n1_; have HB := n2_; clear n0_ n1_ n2_; (try clear hb); (try clear hb2); (try clear hk); (try clear hi); obtain ⟨hcz13_0, hcz13_1, hcz13_2, hcz13_3, hcz13_4⟩ := zzc5 BK212.out (.int .i64 t207) (.int .i64 t208) (.int .i64 t209) (.int .i64 t210) (.int .i64 t211); obtain ⟨hfz13_0, hfz13_1, hfz13_2, hfz13_3, hfz13_4⟩ := zzf5 BK212.out; obtain ⟨hcz14_0, hcz14_1, hcz14_2, hcz14_3, hcz14_4⟩ := zzc5 BK206.out (.int .i64 x207000_1) (.int .i64 x207001_1) (.int .i64 x207002_1) (.int .i64 x207003_1) (.int .i64 x207004_1); obtain ⟨hfz14_0, hfz14_1, hfz14_2, hfz14_3, hfz14_4⟩ := zzf5 BK206.out))
      refine bodyPost_ret (results_ct rfl _ _ gb206 23 #[.int .i64 t207, .int .i64 t208, .int .i64 t209, .int .i64 t210, .int .i64 t211] (0, 0) _ rfl (by refine zzk ?_; refine blk_put (cs := #[.int .i64 t207, .int .i64 t208, .int .i64 t209, .int .i64 t210, .int .i64 x207004_1]) ?_ 4 _ rfl; refine zzk ?_; refine blk_put (cs := #[.int .i64 t207, .int .i64 t208, .int .i64 t209, .int .i64 x207003_1, .int .i64 x207004_1]) ?_ 3 _ rfl; refine zzk ?_; refine blk_put (cs := #[.int .i64 t207, .int .i64 t208, .int .i64 x207002_1, .int .i64 x207003_1, .int .i64 x207004_1]) ?_ 2 _ rfl; refine zzk ?_; refine blk_put (cs := #[.int .i64 t207, .int .i64 x207001_1, .int .i64 x207002_1, .int .i64 x207003_1, .int .i64 x207004_1]) ?_ 1 _ rfl; refine zzk ?_; refine blk_put (cs := #[.int .i64 x207000_1, .int .i64 x207001_1, .int .i64 x207002_1, .int .i64 x207003_1, .int .i64 x207004_1]) ?_ 0 _ rfl; refine zzk ?_; exact BK206.out) Try.underlying23 rfl (by kernel_rfl)) rfl ?_
      exact ⟨zze, zzg⟩
     ·rw [if_neg c7] at H
      have c7b0 : (t213 == a0) = false := beq_eq_false_iff_ne.mpr c7
      have c7b1 : (t213 != a0) = true := bne_iff_ne.mpr c7
      have H' := zz H
      clear H
      go_wp2_with (first | ((with_reducible refine gate_callee (f := 62) rfl ?_); refine goesL_ (some 14) rfl rfl Try.func62 (by kernel_rfl) rfl #[.int .i64 x4_1, .int .u32 a0] rfl zza ?_; (with_reducible refine (r02_try.calls k1 x4_1 a0 t207 t208 t209 t210 t211 _ A4.out).mono ?_); rintro e w15 ⟨rfl, hb⟩; refine ⟨_, rfl, ?_⟩; have n0_ := zz (zzkb BK206.out hb); have n1_ := zz (below_step zzg hb); clear BK206; clear HB; have BK206 := n0_; have HB := n1_; clear n0_ n1_; (try clear hb); (try clear hb2); (try clear hk); (try clear hi)) | ((with_reducible refine gate_dst (N := 5) rfl ?_); refine box_event ?hg (N := 5) ?hd (cs := #[.int .i64 0, .int .i64 0, .int .i64 0, .int .i64 0, .int .i64 0]) (t := 23) ?hr ?_; (case hd => rfl); (case hg => rfl); (case hr => first | (go_simp; done) | (go_simp; rfl)); intro gb212 hg w16 hbox hb; have n0_ := zz (zzkb BK206.out hb); have n1_ := zz (below_step zzg hb); have n2_ := zz (hbox); have n3_ := zz ((zzn hg : w.heap.size ≤ gb212)); have n4_ := zz ((zzn hg : w.heap.size ≤ gb212)); have n5_ := zz ((zzx hg BK206.out : gb206 ≠ gb212)); have n6_ := zz ((zzy hg BK206.out : gb212 ≠ gb206)); clear BK206; clear HB; have BK206 := n0_; have HB := n1_; have BK212 := n2_; have GW212 := n3_; have GE212 := n4_; have NB206_212 := n5_; have NB212_206 := n6_; clear n0_ n1_ n2_ n3_ n4_ n5_ n6_; clear hb hbox hg; have hnb17 := NB212_206.out; have hnc17 := NB206_212.out; obtain ⟨hcz18_0, hcz18_1, hcz18_2, hcz18_3, hcz18_4⟩ := zzc5 BK212.out (.int .i64 0) (.int .i64 0) (.int .i64 0) (.int .i64 0) (.int .i64 0); obtain ⟨hfz18_0, hfz18_1, hfz18_2, hfz18_3, hfz18_4⟩ := zzf5 BK212.out) | ((with_reducible refine gate_callee (f := 63) rfl ?_); refine goesL_ (some 17) rfl rfl Try.func63 (by kernel_rfl) rfl #[.agg #[.int .i64 t207, .int .i64 t208, .int .i64 t209, .int .i64 t210, .int .i64 t211]] rfl zza ?_; (with_reducible refine (r02_Encode.calls k1 t207 t208 t209 t210 t211 t213 t214 _ A5.out).mono ?_); rintro e w19 ⟨rfl, hb⟩; refine ⟨_, rfl, ?_⟩; have n0_ := zz (blk_below (g := gb206) (o := .cells #[.int .i64 x207000_1, .int .i64 x207001_1, .int .i64 x207002_1, .int .i64 x207003_1, .int .i64 x207004_1] 23 (0, 0)) (by refine zzk ?_; refine blk_far ?_ NB206_212.out _; refine zzk ?_; refine blk_far ?_ NB206_212.out _; refine zzk ?_; refine blk_far ?_ NB206_212.out _; refine zzk ?_; refine blk_far ?_ NB206_212.out _; refine zzk ?_; refine blk_far ?_ NB206_212.out _; refine zzk ?_; exact BK206.out) hb); have n1_ := zz (blk_below (g := gb212) (o := .cells #[.int .i64 t207, .int .i64 t208, .int .i64 t209, .int .i64 t210, .int .i64 t211] 23 (0, 0)) (by refine zzk ?_; refine blk_put (cs := #[.int .i64 t207, .int .i64 t208, .int .i64 t209, .int .i64 t210, .int .i64 0]) ?_ 4 _ rfl; refine zzk ?_; refine blk_put (cs := #[.int .i64 t207, .int .i64 t208, .int .i64 t209, .int .i64 0, .int .i64 0]) ?_ 3 _ rfl; refine zzk ?_; refine blk_put (cs := #[.int .i64 t207, .int .i64 t208, .int .i64 0, .int .i64 0, .int .i64 0]) ?_ 2 _ rfl; refine zzk ?_; refine blk_put (cs := #[.int .i64 t207, .int .i64 0, .int .i64 0, .int .i64 0, .int .i64 0]) ?_ 1 _ rfl; refine zzk ?_; refine blk_put (cs := #[.int .i64 0, .int .i64 0, .int .i64 0, .int .i64 0, .int .i64 0]) ?_ 0 _ rfl; refine zzk ?_; exact BK212.out) hb); have n2_ := zz (below_step zzg hb); clear BK206; clear BK212; clear HB; have BK206 := n0_; have BK212 := n1_; have HB := n2_; clear n0_ n1_ n2_; (try clear hb); (try clear hb2); (try clear hk); (try clear hi)))
      go_roundg k1
      case measure => have := HK1.out; omega
      case rel => exact ⟨(wrap64 (x4_1 + 1)), (x207000_1), (x207001_1), (x207002_1), (x207003_1), (x207004_1), (zzh), H', ⟨by have := HK1.out; omega⟩, ⟨by refine zzk ?_; exact BK206.out⟩, ⟨zzg⟩⟩
    ·rw [if_neg c6] at H
     have c6b0 : (t214 == 0) = false := beq_eq_false_iff_ne.mpr c6
     have c6b1 : (t214 != 0) = true := bne_iff_ne.mpr c6
     have H' := zz H
     clear H
     go_wp2_with (first | ((with_reducible refine gate_callee (f := 62) rfl ?_); refine goesL_ (some 14) rfl rfl Try.func62 (by kernel_rfl) rfl #[.int .i64 x4_1, .int .u32 a0] rfl zza ?_; (with_reducible refine (r02_try.calls k1 x4_1 a0 t207 t208 t209 t210 t211 _ A4.out).mono ?_); rintro e w20 ⟨rfl, hb⟩; refine ⟨_, rfl, ?_⟩; have n0_ := zz (zzkb BK206.out hb); have n1_ := zz (below_step zzg hb); clear BK206; clear HB; have BK206 := n0_; have HB := n1_; clear n0_ n1_; (try clear hb); (try clear hb2); (try clear hk); (try clear hi)) | ((with_reducible refine gate_dst (N := 5) rfl ?_); refine box_event ?hg (N := 5) ?hd (cs := #[.int .i64 0, .int .i64 0, .int .i64 0, .int .i64 0, .int .i64 0]) (t := 23) ?hr ?_; (case hd => rfl); (case hg => rfl); (case hr => first | (go_simp; done) | (go_simp; rfl)); intro gb212 hg w21 hbox hb; have n0_ := zz (zzkb BK206.out hb); have n1_ := zz (below_step zzg hb); have n2_ := zz (hbox); have n3_ := zz ((zzn hg : w.heap.size ≤ gb212)); have n4_ := zz ((zzn hg : w.heap.size ≤ gb212)); have n5_ := zz ((zzx hg BK206.out : gb206 ≠ gb212)); have n6_ := zz ((zzy hg BK206.out : gb212 ≠ gb206)); clear BK206; clear HB; have BK206 := n0_; have HB := n1_; have BK212 := n2_; have GW212 := n3_; have GE212 := n4_; have NB206_212 := n5_; have NB212_206 := n6_; clear n0_ n1_ n2_ n3_ n4_ n5_ n6_; clear hb hbox hg; have hnb22 := NB212_206.out; have hnc22 := NB206_212.out; obtain ⟨hcz23_0, hcz23_1, hcz23_2, hcz23_3, hcz23_4⟩ := zzc5 BK212.out (.int .i64 0) (.int .i64 0) (.int .i64 0) (.int .i64 0) (.int .i64 0); obtain ⟨hfz23_0, hfz23_1, hfz23_2, hfz23_3, hfz23_4⟩ := zzf5 BK212.out) | ((with_reducible refine gate_callee (f := 63) rfl ?_); refine goesL_ (some 17) rfl rfl Try.func63 (by kernel_rfl) rfl #[.agg #[.int .i64 t207, .int .i64 t208, .int .i64 t209, .int .i64 t210, .int .i64 t211]] rfl zza ?_; (with_reducible refine (r02_Encode.calls k1 t207 t208 t209 t210 t211 t213 t214 _ A5.out).mono ?_); rintro e w24 ⟨rfl, hb⟩; refine ⟨_, rfl, ?_⟩; have n0_ := zz (blk_below (g := gb206) (o := .cells #[.int .i64 x207000_1, .int .i64 x207001_1, .int .i64 x207002_1, .int .i64 x207003_1, .int .i64 x207004_1] 23 (0, 0)) (by refine zzk ?_; refine blk_far ?_ NB206_212.out _; refine zzk ?_; refine blk_far ?_ NB206_212.out _; refine zzk ?_; refine blk_far ?_ NB206_212.out _; refine zzk ?_; refine blk_far ?_ NB206_212.out _; refine zzk ?_; refine blk_far ?_ NB206_212.out _; refine zzk ?_; exact BK206.out) hb); have n1_ := zz (blk_below (g := gb212) (o := .cells #[.int .i64 t207, .int .i64 t208, .int .i64 t209, .int .i64 t210, .int .i64 t211] 23 (0, 0)) (by refine zzk ?_; refine blk_put (cs := #[.int .i64 t207, .int .i64 t208, .int .i64 t209, .int .i64 t210, .int .i64 0]) ?_ 4 _ rfl; refine zzk ?_; refine blk_put (cs := #[.int .i64 t207, .int .i64 t208, .int .i64 t209, .int .i64 0, .int .i64 0]) ?_ 3 _ rfl; refine zzk ?_; refine blk_put (cs := #[.int .i64 t207, .int .i64 t208, .int .i64 0, .int .i64 0, .int .i64 0]) ?_ 2 _ rfl; refine zzk ?_; refine blk_put (cs := #[.int .i64 t207, .int .i64 0, .int .i64 0, .int .i64 0, .int .i64 0]) ?_ 1 _ rfl; refine zzk ?_; refine blk_put (cs := #[.int .i64 0, .int .i64 0, .int .i64 0, .int .i64 0, .int .i64 0]) ?_ 0 _ rfl; refine zzk ?_; exact BK212.out) hb); have n2_ := zz (below_step zzg hb); clear BK206; clear BK212; clear HB; have BK206 := n0_; have BK212 := n1_; have HB := n2_; clear n0_ n1_ n2_; (try clear hb); (try clear hb2); (try clear hk); (try clear hi)))
     go_roundg k1
     case measure => have := HK1.out; omega
     case rel => exact ⟨(wrap64 (x4_1 + 1)), (x207000_1), (x207001_1), (x207002_1), (x207003_1), (x207004_1), (zzh), H', ⟨by have := HK1.out; omega⟩, ⟨by refine zzk ?_; exact BK206.out⟩, ⟨zzg⟩⟩
   ·rw [if_neg c3] at H
    have c3b0 : decide (x4_1 < 47) = false := decide_eq_false c3
    clear c3
    simp only [Option.some.injEq, Prod.mk.injEq] at H
    obtain ⟨rfl, rfl, rfl, rfl, rfl, rfl⟩ := H
    obtain ⟨hcz25_0, hcz25_1, hcz25_2, hcz25_3, hcz25_4⟩ := zzc5 BK206.out (.int .i64 x207000_1) (.int .i64 x207001_1) (.int .i64 x207002_1) (.int .i64 x207003_1) (.int .i64 x207004_1)
    obtain ⟨hfz25_0, hfz25_1, hfz25_2, hfz25_3, hfz25_4⟩ := zzf5 BK206.out
    go_wp2
    refine bodyPost_ret (results_ct rfl _ _ gb206 23 #[.int .i64 0, .int .i64 0, .int .i64 0, .int .i64 0, .int .i64 0] (0, 0) _ rfl (by refine zzk ?_; refine blk_put (cs := #[.int .i64 0, .int .i64 0, .int .i64 0, .int .i64 0, .int .i64 x207004_1]) ?_ 4 _ rfl; refine zzk ?_; refine blk_put (cs := #[.int .i64 0, .int .i64 0, .int .i64 0, .int .i64 x207003_1, .int .i64 x207004_1]) ?_ 3 _ rfl; refine zzk ?_; refine blk_put (cs := #[.int .i64 0, .int .i64 0, .int .i64 x207002_1, .int .i64 x207003_1, .int .i64 x207004_1]) ?_ 2 _ rfl; refine zzk ?_; refine blk_put (cs := #[.int .i64 0, .int .i64 x207001_1, .int .i64 x207002_1, .int .i64 x207003_1, .int .i64 x207004_1]) ?_ 1 _ rfl; refine zzk ?_; refine blk_put (cs := #[.int .i64 x207000_1, .int .i64 x207001_1, .int .i64 x207002_1, .int .i64 x207003_1, .int .i64 x207004_1]) ?_ 0 _ rfl; refine zzk ?_; exact BK206.out) Try.underlying23 rfl (by kernel_rfl)) rfl ?_
    exact ⟨zze, zzg⟩
def r07_Words.l0 : Nat → List Int → List Int → Int → Option (Bool)
 | 0, _, _, _ => none
 | k + 1, x0, x1, x5 => if x5 < (x0.length : Int) then (if 0 ≤ x5 then (if x5 < (x1.length : Int) then (if (rd x0 x5) = (rd x1 x5) then (r07_Words.l0 k x0 x1 (wrap64 (x5 + 1))) else (some false)) else (none)) else (none)) else (some true)
def r07_Words.f (k : Nat) (l0 : List Int) (l1 : List Int) : Option (Bool) := if (l0.length : Int) = (l1.length : Int) then (r07_Words.l0 k l0 l1 0) else (some false)
set_option maxHeartbeats 8000000 in
set_option maxRecDepth 100000 in
theorem r07_Words.calls (k : Nat) (A0 : Option Addr) (c0 : Nat) (l0 : List Int) (A1 : Option Addr) (c1 : Nat) (l1 : List Int) (r : Bool) (w : World) (hr0 : Kd.C (Kd.int .u32) w A0 l0.length l0) (hc0 : l0.length ≤ c0) (hr1 : Kd.C (Kd.int .u32) w A1 l1.length l1) (hc1 : l1.length ≤ c1) (h : r07_Words.f k l0 l1 = some r) :
  Calls Try.prog 12 #[.slice A0 l0.length c0, .slice A1 l1.length c1] w fun e w' => e = .returned (.bool r) ∧ Drawn0 w w' := by
 have HR0 := zz hr0
 have HC0 := zz hc0
 clear hr0 hc0
 have HR1 := zz hr1
 have HC1 := zz hc1
 clear hr1 hc1
 have H : (if (l0.length : Int) = (l1.length : Int) then (r07_Words.l0 k l0 l1 0) else (some false)) = some r := h
 clear h
 by_cases c3 : (l0.length : Int) = (l1.length : Int)
 ·rw [if_pos c3] at H
  have c3b0 : ((l0.length : Int) == (l1.length : Int)) = true := beq_iff_eq.mpr c3
  have c3b1 : ((l0.length : Int) != (l1.length : Int)) = false := bne_eq_false_iff_eq.mpr c3
  have c3b2 : (l0.length == l1.length) = true := by first | simpa using c3 | (simp at c3 ⊢; omega)
  clear c3
  have H' := zz H
  clear H
  go_enter Try.func12, Try.ntmps12
  go_wp2
  repeat (go_quiet (fail); try go_wp2)
  go_loopg [5] k (fun kq v5 w' => ∃ (x5_1 : Int), v5 = .int .i64 x5_1 ∧ Aside0 (r07_Words.l0 kq l0 l1 x5_1 = some r) ∧ Aside0 (kq ≤ k) ∧ Drawn0 w w')
  case atStart => exact ⟨(0), (zzh), H', ⟨Nat.le_refl _⟩, zzd⟩
  case round =>
   clear H'
   try clear c1
   try clear p2
   try clear c3
   try clear c3b0
   try clear c3b1
   try clear c3b2
   obtain ⟨x5_1, rfl, HA, HK1, ⟨m1, rfl⟩⟩ := hrel
   cases gk with
   | zero => exact absurd HA.out (by simp [r07_Words.l0])
   | succ k1 =>
    have H := HA.out
    clear HA
    simp only [r07_Words.l0] at H
    by_cases c4 : x5_1 < (l0.length : Int)
    ·rw [if_pos c4] at H
     have c4b0 : decide (x5_1 < (l0.length : Int)) = true := decide_eq_true c4
     clear c4
     by_cases c5 : 0 ≤ x5_1
     ·rw [if_pos c5] at H
      have c5b0 : decide (0 ≤ x5_1) = true := decide_eq_true c5
      clear c5
      by_cases c6 : x5_1 < (l1.length : Int)
      ·rw [if_pos c6] at H
       have c6b0 : decide (x5_1 < (l1.length : Int)) = true := decide_eq_true c6
       clear c6
       by_cases c7 : (rd l0 x5_1) = (rd l1 x5_1)
       ·rw [if_pos c7] at H
        have c7b0 : ((rd l0 x5_1) == (rd l1 x5_1)) = true := beq_iff_eq.mpr c7
        have c7b1 : ((rd l0 x5_1) != (rd l1 x5_1)) = false := bne_eq_false_iff_eq.mpr c7
        clear c7
        have H' := zz H
        clear H
        have p215 : 0 ≤ (x5_1 : Int) := of_decide_eq_true zzm
        have q215 : x5_1 < (l0.length : Int) := of_decide_eq_true zzm
        obtain ⟨ad215, e215, hx215_0⟩ := Kd.at_int HR0.out x5_1 p215 q215
        cases e215
        replace p215 := eq_true p215
        replace q215 := eq_true q215
        have p216 : 0 ≤ (x5_1 : Int) := of_decide_eq_true zzm
        have q216 : x5_1 < (l1.length : Int) := of_decide_eq_true zzm
        obtain ⟨ad216, e216, hx216_0⟩ := Kd.at_int HR1.out x5_1 p216 q216
        cases e216
        replace p216 := eq_true p216
        replace q216 := eq_true q216
        go_wp2
        repeat (go_quiet (fail); try go_wp2)
        go_roundg k1
        case measure => have := HK1.out; omega
        case rel => exact ⟨(wrap64 (x5_1 + 1)), (zzh), H', ⟨by have := HK1.out; omega⟩, zzd⟩
       ·rw [if_neg c7] at H
        have c7b0 : ((rd l0 x5_1) == (rd l1 x5_1)) = false := beq_eq_false_iff_ne.mpr c7
        have c7b1 : ((rd l0 x5_1) != (rd l1 x5_1)) = true := bne_iff_ne.mpr c7
        obtain rfl := Option.some.inj H
        have p215 : 0 ≤ (x5_1 : Int) := of_decide_eq_true zzm
        have q215 : x5_1 < (l0.length : Int) := of_decide_eq_true zzm
        obtain ⟨ad215, e215, hx215_0⟩ := Kd.at_int HR0.out x5_1 p215 q215
        cases e215
        replace p215 := eq_true p215
        replace q215 := eq_true q215
        have p216 : 0 ≤ (x5_1 : Int) := of_decide_eq_true zzm
        have q216 : x5_1 < (l1.length : Int) := of_decide_eq_true zzm
        obtain ⟨ad216, e216, hx216_0⟩ := Kd.at_int HR1.out x5_1 p216 q216
        cases e216
        replace p216 := eq_true p216
        replace q216 := eq_true q216
        go_wp2
        repeat (go_quiet (fail); try go_wp2)
        go_ret
        exact ⟨zzh, zzd⟩
      ·rw [if_neg c6] at H
       exact absurd H (by simp)
     ·rw [if_neg c5] at H
      exact absurd H (by simp)
    ·rw [if_neg c4] at H
     have c4b0 : decide (x5_1 < (l0.length : Int)) = false := decide_eq_false c4
     clear c4
     obtain rfl := Option.some.inj H
     go_wp2
     repeat (go_quiet (fail); try go_wp2)
     go_ret
     exact ⟨zzh, zzd⟩
 ·rw [if_neg c3] at H
  have c3b0 : ((l0.length : Int) == (l1.length : Int)) = false := beq_eq_false_iff_ne.mpr c3
  have c3b1 : ((l0.length : Int) != (l1.length : Int)) = true := bne_iff_ne.mpr c3
  have c3b2 : (l0.length == l1.length) = false := by first | simpa using c3 | (simp at c3 ⊢; omega)
  obtain rfl := Option.some.inj H
  go_enter Try.func12, Try.ntmps12
  go_wp2
  repeat (go_quiet (fail); try go_wp2)
  go_ret
  exact ⟨zzh, zzd⟩
theorem litU (w : World) (l : List Nat) (hl : l.length ≤ maxLen) : Kd.C (Kd.int .u32) (w.alloc (.cells (l.map Bl.uc).toArray 24)) (some ⟨w.heap.size, 0, none⟩) (castL l).length (castL l) := (Kd.R_reads' (R_of_U (Bl.OwnU.lit w w.heap.size l (Nat.le_refl _) hl))).2.2
theorem litB (w : World) (l : List (Nat × Nat)) (hl : l.length ≤ maxLen) : Kd.C k40 (w.alloc (.cells (Bl.bv l).toArray 40)) (some ⟨w.heap.size, 0, none⟩) (l.map toB).length (l.map toB) := by
 have h2 := World.ownsRow_lit (base := w.heap.size) (e := 40) (size := 2) w (Bl.bv l).toArray l.length (Nat.le_refl _) hl (by simp [Bl.bv_length])
 exact (Kd.R_reads' (R_of_B (v := .slice (some ⟨w.heap.size, 0, none⟩) l.length l.length) h2)).2.2
theorem lit12 (w : World) : Kd.C (Kd.int .i64) (w.alloc (.cells #[.int .i64 1, .int .i64 2] 3)) (some ⟨w.heap.size, 0, none⟩) ([1, 2] : List Int).length [1, 2] := by
 have h2 := World.ownsRow_lit (base := w.heap.size) (e := 3) (size := 1) w #[.int .i64 1, .int .i64 2] 2 (Nat.le_refl _) (by decide) (by rfl)
 have hR : Kd.R (Kd.int .i64) 3 (w.alloc (.cells #[.int .i64 1, .int .i64 2] 3)) w.heap.size (fun _ => True) (.slice (some ⟨w.heap.size, 0, none⟩) 2 2) [1, 2] :=
  ⟨fun _ _ => trivial, _, h2, by
   refine ⟨rfl, fun j p hj => ?_⟩
   match j, hj with
   | 0, hj => cases hj; rfl
   | 1, hj => cases hj; rfl
   | j + 2, hj => simp at hj⟩
 exact (Kd.R_reads' hR).2.2
theorem kcU_nil {w : World} {v : Option Addr} : Kd.C (Kd.int .u32) w v ([] : List Int).length [] := ⟨rfl, by decide, fun h => by cases h⟩
theorem Find_c (b e : Int) (A : Option Addr) (c : Nat) (l : List Int) (s : Int) (A1 : Option Addr) (c1 : Nat) (es : List Int) (m n : Nat) (w : World) (hr : Kd.C (Kd.int .u32) w A l.length l) (hc : l.length ≤ c) (hr1 : Kd.C (Kd.int .u32) w A1 es.length es) (hc1 : es.length ≤ c1) (hm : l.length = m) (hn : es.length = n) (ok : okFind b e l es) (R : List (Nat × Nat) × Int) (hR : findq b e l es = R) (q : Nat) (hq : R.1.length = q) :
  Calls Try.prog 19 #[.agg #[.int .u32 b, .int .u32 e, .slice A m c, .int .i64 s], .slice A1 n c1] w fun x w' => ∃ A2 c2, x = .returned (.tuple #[.slice A2 q c2, .int .i64 R.2]) ∧ Kd.C k40 w' A2 (R.1.map toB).length (R.1.map toB) ∧ Kd.R k40 40 w' w.heap.size (fun _ => True) (.slice A2 q c2) (R.1.map toB) ∧ (R.1.map toB).length ≤ c2 ∧ Below w.heap.size w w' := by
 subst hm hn hR hq
 refine (blocks_Find.calls b e A c l s A1 c1 es _ _ w hr hc hr1 hc1 (by unfold blocks_Find.f; rw [if_pos ok])).mono ?_
 rintro x w' ⟨v, rfl, hR, hb⟩
 obtain ⟨A2, c2, hv, k, r⟩ := Kd.R_reads hR
 subst hv
 rw [List.length_map] at hR ⊢
 exact ⟨A2, c2, rfl, by rw [List.length_map] at r; exact r, hR, by rw [List.length_map] at k; exact k, hb⟩
theorem fx1 : okFind 4096 4096 [1123, 19, 1048691] [] ∧ findq 4096 4096 [1123, 19, 1048691] [] = ([(4096, 1), (4100, 1), (4104, 1)], 0) := by decide +kernel
theorem fx2 : okFind 4096 4096 [1123, 19, 1048691] [4108] ∧ findq 4096 4096 [1123, 19, 1048691] [4108] = ([], 81) := by decide +kernel
theorem fx3 : okFind 4096 4096 [0] [] ∧ findq 4096 4096 [0] [] = ([], 80) := by decide +kernel
theorem fx4 : blocks_Next.f 300 4096 4096 [1123, 19, 1048691] 0 ([(4096, 1), (4100, 1), (4104, 1)].map toB) 0 = some ([1, 2], false) := by decide +kernel
theorem fx5 : blocks_After.f 4 0 0 0 (-4) 8 = some [4, 12] := by decide +kernel
theorem fx6 : r08_Same.f 9 ([(4096, 1), (4100, 1), (4104, 1)].map toB) ([(4096, 1), (4100, 1), (4104, 1)].map toB) = some true := by decide +kernel
theorem fx7 : r08_Nums.f 9 [1, 2] [1, 2] = some true := by decide +kernel
theorem fx8 : r07_Words.f 9 [4, 12] [4, 12] = some true := by decide +kernel
theorem fx9 : blocks_Ends.f 9 3 0 0 0 0 = some true ∧ blocks_Ends.f 9 45 0 0 0 0 = some false := by decide +kernel
def Img (w : World) (g : Nat) (A : Option Addr) : Prop := w.heap[g]? = some (.cells #[.int .u32 4096, .int .u32 4096, .slice A 3 3, .int .i64 0] 32 (0, 0)) ∧ Kd.C (Kd.int .u32) w A ([1123, 19, 1048691] : List Int).length [1123, 19, 1048691]
theorem Img.below {w w' : World} {g : Nat} {A : Option Addr} (h : Img w g A) (hb : Below w.heap.size w w') : Img w' g A := ⟨(hb.block g (Array.getElem?_eq_some_iff.1 h.1).1).trans h.1, Kd.C_below h.2 hb⟩
theorem Img.cells {w : World} {g : Nat} {A : Option Addr} (h : Img w g A) : w.cell? ⟨g, 0, none⟩ = some (.int .u32 4096) ∧ w.cell? ⟨g, 1, none⟩ = some (.int .u32 4096) ∧ w.cell? ⟨g, 2, none⟩ = some (.slice A 3 3) ∧ w.cell? ⟨g, 3, none⟩ = some (.int .i64 0) := by
 simp [World.cell?, h.1]
set_option maxHeartbeats 8000000 in
set_option maxRecDepth 100000 in
theorem fixed_c (w : World) : Calls Try.prog 11 #[] w fun e w' => e = .returned (.bool true) ∧ Below w.heap.size w w' := by
 go_enter Try.func11, Try.ntmps11
 go_wp2_with ((with_reducible refine Bl.gate_dst (N := 14) rfl ?_); refine Bl.hold_ ?_)
 intro _
 obtain ⟨W0, hW0⟩ : ∃ W0, W0 = (w.alloc (.cells #[.int .u32 1123, .int .u32 19, .int .u32 1048691] 24)).alloc (.cells #[.int .u32 4096, .int .u32 4096, .slice (some ⟨w.heap.size, 0, none⟩) 3 3, .int .i64 0] 32) := ⟨_, rfl⟩
 rw [← hW0]
 have hI : Img W0 (w.heap.size + 1) (some ⟨w.heap.size, 0, none⟩) := by
  rw [hW0]
  refine ⟨?_, Kd.C_alloc (litU w [1123, 19, 1048691] (by decide)) _⟩
  have := (MapKept.heap_alloc (w.alloc (.cells #[.int .u32 1123, .int .u32 19, .int .u32 1048691] 24)) (.cells #[.int .u32 4096, .int .u32 4096, .slice (some ⟨w.heap.size, 0, none⟩) 3 3, .int .i64 0] 32)).1
  simpa using this
 have hB : Below w.heap.size w W0 := by rw [hW0]; exact below_alloc (below_alloc (Below.refl _ _) _) _
 have HI := zz hI
 have HB := zz hB
 clear hI hB hW0
 generalize (some ⟨w.heap.size, 0, none⟩ : Option Addr) = A at *
 generalize w.heap.size + 1 = g at *
 obtain ⟨i0, i1, i2, i3⟩ := HI.out.cells
 go_wp2_with (go_at_call 19; refine Bl.hold_ ?_)
 intro _
 clear i0 i1 i2 i3
 refine (Find_c 4096 4096 A 3 [1123, 19, 1048691] 0 none 0 [] 3 0 _ HI.out.2 (by decide) kcU_nil (Nat.zero_le _) rfl rfl fx1.1 _ fx1.2 3 rfl).mono ?_
 rintro e w1 ⟨A2, c2, rfl, hC, -, hk, hb⟩
 have HL := zz hC
 have HK := zz hk
 clear hC hk
 have NB := zz (below_step HB.out hb)
 have NI := zz (Img.below HI.out hb)
 clear HB HI hb 
 have HB := NB
 have HI := NI
 clear NB NI 
 obtain ⟨i0, i1, i2, i3⟩ := HI.out.cells
 go_wp2_with (go_at_call 21; refine Bl.hold_ ?_)
 intro _
 clear i0 i1 i2 i3
 refine (blocks_Next.calls 300 4096 4096 A 3 [1123, 19, 1048691] 0 A2 c2 _ 0 _ _ w1 HI.out.2 (by decide) HL.out HK.out fx4).mono ?_
 rintro e w2 ⟨v, rfl, hR, hb⟩
 obtain ⟨A3, c3, hv, k3, r3⟩ := Kd.R_reads hR
 subst hv
 have HN := zz r3
 have HK3 := zz k3
 clear hR k3 r3
 have NB := zz (below_step HB.out hb)
 have NI := zz (Img.below HI.out hb)
 have NHL := zz (Kd.C_below HL.out hb)
 clear HB HI hb HL
 have HB := NB
 have HI := NI
 have HL := NHL
 clear NB NI NHL
 obtain ⟨i0, i1, i2, i3⟩ := HI.out.cells
 go_wp2_with (go_at_call 19; refine Bl.hold_ ?_)
 intro _
 clear i0 i1 i2 i3
 have l1 := litU w2 [4108] (by decide)
 refine (Find_c 4096 4096 A 3 [1123, 19, 1048691] 0 (some ⟨w2.heap.size, 0, none⟩) 1 [4108] 3 1 _ (Kd.C_alloc HI.out.2 _) (by decide) l1 (Nat.le_refl _) rfl rfl fx2.1 _ fx2.2 0 rfl).mono ?_
 clear l1
 rintro e w3 ⟨A4, c4, rfl, -, -, -, hb⟩
 have NB := zz (below_step (below_alloc HB.out _) hb)
 have NI := zz (Img.below (Img.below HI.out (below_alloc (Below.refl _ _) _)) hb)
 have NHL := zz (Kd.C_below (Kd.C_alloc HL.out _) hb)
 have NHN := zz (Kd.C_below (Kd.C_alloc HN.out _) hb)
 clear HB HI hb HL HN
 have HB := NB
 have HI := NI
 have HL := NHL
 have HN := NHN
 clear NB NI NHL NHN
 obtain ⟨i0, i1, i2, i3⟩ := HI.out.cells
 go_wp2_with (go_at_call 19; refine Bl.hold_ ?_)
 intro _
 clear i0 i1 i2 i3
 have l1 := litU w3 [0] (by decide)
 refine (Find_c 4096 4096 (some ⟨w3.heap.size, 0, none⟩) 1 [0] 0 none 0 [] 1 0 _ l1 (Nat.le_refl _) kcU_nil (Nat.zero_le _) rfl rfl fx3.1 _ fx3.2 0 rfl).mono ?_
 clear l1
 rintro e w4 ⟨A5, c5, rfl, -, -, -, hb⟩
 have NB := zz (below_step (below_alloc HB.out _) hb)
 have NI := zz (Img.below (Img.below HI.out (below_alloc (Below.refl _ _) _)) hb)
 have NHL := zz (Kd.C_below (Kd.C_alloc HL.out _) hb)
 have NHN := zz (Kd.C_below (Kd.C_alloc HN.out _) hb)
 clear HB HI hb HL HN
 have HB := NB
 have HI := NI
 have HL := NHL
 have HN := NHN
 clear NB NI NHL NHN
 obtain ⟨i0, i1, i2, i3⟩ := HI.out.cells
 go_wp2_with (go_at_call 13; refine Bl.hold_ ?_)
 intro _
 clear i0 i1 i2 i3
 refine (blocks_After.calls 4 0 0 0 (-4) 8 _ w4 fx5).mono ?_
 rintro e w5 ⟨v5, rfl, hR, hb⟩
 obtain ⟨A6, c6, hv, k6, r6⟩ := Kd.R_reads hR
 subst hv
 have HA := zz r6
 have HK6 := zz k6
 clear hR k6 r6
 have NB := zz (below_step HB.out hb)
 have NI := zz (Img.below HI.out hb)
 have NHL := zz (Kd.C_below HL.out hb)
 have NHN := zz (Kd.C_below HN.out hb)
 clear HB HI hb HL HN
 have HB := NB
 have HI := NI
 have HL := NHL
 have HN := NHN
 clear NB NI NHL NHN
 obtain ⟨i0, i1, i2, i3⟩ := HI.out.cells
 go_wp2_with (go_at_call 20; refine Bl.hold_ ?_)
 intro _
 clear i0 i1 i2 i3
 have l1 := litB w5 [(4096, 1), (4100, 1), (4104, 1)] (by decide)
 refine (r08_Same.calls 9 A2 c2 _ (some ⟨w5.heap.size, 0, none⟩) 3 _ true _ (Kd.C_alloc HL.out _) HK.out l1 (Nat.le_refl _) fx6).mono ?_
 clear l1
 rintro e w6 ⟨rfl, hd⟩
 have hb := hd.below
 clear hd HL HK
 have NB := zz (below_step (below_alloc HB.out _) hb)
 have NI := zz (Img.below (Img.below HI.out (below_alloc (Below.refl _ _) _)) hb)
 have NHN := zz (Kd.C_below (Kd.C_alloc HN.out _) hb)
 have NHA := zz (Kd.C_below (Kd.C_alloc HA.out _) hb)
 clear HB HI hb HN HA
 have HB := NB
 have HI := NI
 have HN := NHN
 have HA := NHA
 clear NB NI NHN NHA
 obtain ⟨i0, i1, i2, i3⟩ := HI.out.cells
 go_wp2_with (go_at_call 23; refine Bl.hold_ ?_)
 intro _
 clear i0 i1 i2 i3
 have l1 := lit12 w6
 refine (r08_Nums.calls 9 A3 c3 _ (some ⟨w6.heap.size, 0, none⟩) 2 _ true _ (Kd.C_alloc HN.out _) HK3.out l1 (Nat.le_refl _) fx7).mono ?_
 clear l1
 rintro e w7 ⟨rfl, hd⟩
 have hb := hd.below
 clear hd HN HK3
 have NB := zz (below_step (below_alloc HB.out _) hb)
 have NI := zz (Img.below (Img.below HI.out (below_alloc (Below.refl _ _) _)) hb)
 have NHA := zz (Kd.C_below (Kd.C_alloc HA.out _) hb)
 clear HB HI hb HA
 have HB := NB
 have HI := NI
 have HA := NHA
 clear NB NI NHA
 obtain ⟨i0, i1, i2, i3⟩ := HI.out.cells
 go_wp2_with (go_at_call 12; refine Bl.hold_ ?_)
 intro _
 clear i0 i1 i2 i3
 have l1 := litU w7 [4, 12] (by decide)
 refine (r07_Words.calls 9 A6 c6 _ (some ⟨w7.heap.size, 0, none⟩) 2 _ true _ (Kd.C_alloc HA.out _) HK6.out l1 (Nat.le_refl _) fx8).mono ?_
 clear l1
 rintro e w8 ⟨rfl, hd⟩
 have hb := hd.below
 clear hd HA HK6
 have NB := zz (below_step (below_alloc HB.out _) hb)
 have NI := zz (Img.below (Img.below HI.out (below_alloc (Below.refl _ _) _)) hb)
 clear HB HI hb 
 have HB := NB
 have HI := NI
 clear NB NI 
 obtain ⟨i0, i1, i2, i3⟩ := HI.out.cells
 go_wp2_with (go_at_call 15; refine Bl.hold_ ?_)
 intro _
 clear i0 i1 i2 i3
 refine (blocks_Ends.calls 9 3 0 0 0 0 _ w8 fx9.1).mono ?_
 rintro e w9 ⟨rfl, hb⟩
 have NB := zz (below_step HB.out hb)
 have NI := zz (Img.below HI.out hb)
 clear HB HI hb 
 have HB := NB
 have HI := NI
 clear NB NI 
 obtain ⟨i0, i1, i2, i3⟩ := HI.out.cells
 go_wp2_with (go_at_call 15; refine Bl.hold_ ?_)
 intro _
 clear i0 i1 i2 i3
 refine (blocks_Ends.calls 9 45 0 0 0 0 _ w9 fx9.2).mono ?_
 rintro e w10 ⟨rfl, hb⟩
 have NB := zz (below_step HB.out hb)
 have NI := zz (Img.below HI.out hb)
 clear HB HI hb 
 have HB := NB
 have HI := NI
 clear NB NI 
 go_wp2
 go_ret
 exact ⟨rfl, HB.out⟩
def w08_fixed.f : Option Bool := some true
theorem w08_fixed.calls (r : Bool) (w : World) (h : w08_fixed.f = some r) : Calls Try.prog 11 #[] w fun e w' => e = .returned (.bool r) ∧ Below w.heap.size w w' := by
 cases h
 exact fixed_c w
def w08_Text.f (a0_0 : Int) (a0_1 : Int) (l0_2 : List Int) (a0_3 : Int) : Option (Int × Int × List Int × Int) := if ∀ x ∈ l0_2, 0 ≤ x then some (Go.bits .and .u32 a0_0 4294963200, a0_1, l0_2.take 40, 0) else none
theorem cast_nat (l : List Int) (h : ∀ x ∈ l, 0 ≤ x) (n : Nat) : castL ((natL l).take n) = l.take n := by
 unfold castL natL
 rw [← List.map_take, List.map_map]
 refine (List.map_congr_left fun x hx => ?_).trans (List.map_id' _)
 exact Int.toNat_of_nonneg (h x (List.mem_of_mem_take hx))
theorem w08_Text.calls (a0_0 : Int) (a0_1 : Int) (A0_2 : Option Addr) (c0_2 : Nat) (l0_2 : List Int) (a0_3 : Int) (r1 : Int) (r2 : Int) (r3 : List Int) (r4 : Int) (w : World) (hr0_2 : Kd.C (Kd.int .u32) w A0_2 l0_2.length l0_2) (hc0_2 : l0_2.length ≤ c0_2) (h : w08_Text.f a0_0 a0_1 l0_2 a0_3 = some (r1, r2, r3, r4)) :
  Calls Try.prog 17 #[.agg #[.int .u32 a0_0, .int .u32 a0_1, .slice A0_2 l0_2.length c0_2, .int .i64 a0_3]] w fun e w' => ∃ v2_ : Value, e = .returned (.agg #[.int .u32 r1, .int .u32 r2, v2_, .int .i64 r4]) ∧ Kd.R (Kd.int .u32) 24 w' w.heap.size (fun _ => True) v2_ r3 ∧ Below w.heap.size w w' := by
 unfold w08_Text.f at h
 split at h
 ·rename_i hs
  simp only [Option.some.injEq, Prod.mk.injEq] at h
  obtain ⟨rfl, rfl, rfl, rfl⟩ := h
  refine (Bl.Text_calls a0_0 a0_1 A0_2 l0_2.length c0_2 a0_3 (natL l0_2) (by simp [natL]) hc0_2 w (RdU_of hr0_2 hs)).mono ?_
  rintro e w' ⟨v, rfl, hO, hb⟩
  refine ⟨v, rfl, ?_, hb⟩
  have := R_of_U hO
  rw [cast_nat l0_2 hs 40] at this
  exact this
 ·cases h
end Go.Proofs.Ytekenddkoahjgaa.Q
