import Derived.Test.YtekenddkoahjgaaHZc
import Derived.Test.YtekenddkoahjgaaHQx5
import Derived.Test.YtekenddkoahjgaaHQx14
namespace Go.Proofs.Ytekenddkoahjgaa.Q
open Go.RowKit Go.Proofs.YtekenddkoahjgaaW.PrintWords Go.Proofs.YtekenddkoahjgaaW.PrintLast Go.Proofs.YtekenddkoahjgaaW.PrintMore
attribute [local go_sem] max2_int min2_int max_two min_two max_three min_three max_four min_four
attribute [local go_sem] imax_u32 imax_u8 isg_u32 isg_u8
set_option linter.unusedVariables false
set_option linter.unusedSimpArgs false
mutual
def r02_try.j0 : Nat → Int → Int → Int → Int → Int → Int → Int → Option (Int × Int × Int × Int × Int)
 | 0, _, _, _, _, _, _, _ => none
 | k + 1, x1, x5, x163000, x163001, x163002, x163003, x163004 => (r02_in.f k x5 (⟨#[73, 72, 66, 83, 82]⟩ : ByteArray)).bind fun t165 => (if t165 = true then ((r01_Field.f k x1 15 5).bind fun t166 => (r02_try.j1 k x1 x5 x163000 x163001 (wrap64 (t166)) x163003 x163004)) else (r02_try.j1 k x1 x5 x163000 x163001 x163002 x163003 x163004))
def r02_try.j1 : Nat → Int → Int → Int → Int → Int → Int → Int → Option (Int × Int × Int × Int × Int)
 | 0, _, _, _, _, _, _, _ => none
 | k + 1, x1, x5, x163000, x163001, x163002, x163003, x163004 => (r02_in.f k x5 (⟨#[66, 83, 82]⟩ : ByteArray)).bind fun t167 => (if t167 = true then ((r01_Field.f k x1 20 5).bind fun t168 => (r02_try.j2 k x1 x5 x163000 x163001 x163002 (wrap64 (t168)) x163004)) else (r02_try.j2 k x1 x5 x163000 x163001 x163002 x163003 x163004))
def r02_try.j2 : Nat → Int → Int → Int → Int → Int → Int → Int → Option (Int × Int × Int × Int × Int)
 | 0, _, _, _, _, _, _, _ => none
 | k + 1, x1, x5, x163000, x163001, x163002, x163003, x163004 => (r02_places.f x5).bind fun t169 => (r02_try.l0 k x1 x5 t169 0 1 0 x163000 x163001 x163002 x163003 x163004)
def r02_try.l0 : Nat → Int → Int → List Int → Int → Int → Int → Int → Int → Int → Int → Int → Option (Int × Int × Int × Int × Int)
 | 0, _, _, _, _, _, _, _, _, _, _, _ => none
 | k + 1, x1, x5, x7, x8, x9, x10, x163000, x163001, x163002, x163003, x163004 => if x10 < (x7.length : Int) then (if 0 ≤ x10 then (if (rd x7 x10) ≥ 0 then ((r01_Bit.f x1 (rd x7 x10)).bind fun t174 => (r02_try.j4 k x1 x5 x7 x8 x9 x10 (t174 == 1) x163000 x163001 x163002 x163003 x163004)) else (r02_try.j4 k x1 x5 x7 x8 x9 x10 false x163000 x163001 x163002 x163003 x163004)) else (none)) else (some (x163000, x163001, x163002, x163003, x8))
def r02_try.j4 : Nat → Int → Int → List Int → Int → Int → Int → Bool → Int → Int → Int → Int → Int → Option (Int × Int × Int × Int × Int)
 | 0, _, _, _, _, _, _, _, _, _, _, _, _ => none
 | k + 1, x1, x5, x7, x8, x9, x10, x54, x163000, x163001, x163002, x163003, x163004 => if x54 = true then (if x10 = (wrap64 ((x7.length : Int) - 1)) then ((r02_in.f k x5 (⟨#[74, 73, 83, 66]⟩ : ByteArray)).bind fun t175 => (if t175 = true then (r02_try.l0 k x1 x5 x7 (wrap64 ((wrap64 (x8 + x9)) - (wrap64 (2 * x9)))) (wrap64 (2 * x9)) (wrap64 (x10 + 1)) x163000 x163001 x163002 x163003 x163004) else (r02_try.l0 k x1 x5 x7 (wrap64 (x8 + x9)) (wrap64 (2 * x9)) (wrap64 (x10 + 1)) x163000 x163001 x163002 x163003 x163004))) else (r02_try.l0 k x1 x5 x7 (wrap64 (x8 + x9)) (wrap64 (2 * x9)) (wrap64 (x10 + 1)) x163000 x163001 x163002 x163003 x163004)) else (r02_try.l0 k x1 x5 x7 x8 (wrap64 (2 * x9)) (wrap64 (x10 + 1)) x163000 x163001 x163002 x163003 x163004)
end
def r02_try.f (k : Nat) (a0 : Int) (a1 : Int) : Option (Int × Int × Int × Int × Int) := (r02_Form.f a0).bind fun t161 => ((r02_in.f k t161 (⟨#[85, 74, 73, 72, 82]⟩ : ByteArray)).bind fun t163 => (if t163 = true then ((r01_Field.f k a1 7 5).bind fun t164 => (r02_try.j0 k a1 t161 a0 (wrap64 (t164)) 0 0 0)) else (r02_try.j0 k a1 t161 a0 0 0 0 0)))
set_option maxHeartbeats 8000000 in
set_option maxRecDepth 100000 in
theorem r02_try.calls (k : Nat) (a0 : Int) (a1 : Int) (r1 : Int) (r2 : Int) (r3 : Int) (r4 : Int) (r5 : Int) (w : World) (h : r02_try.f k a0 a1 = some (r1, r2, r3, r4, r5)) :
  Calls Try.prog 62 #[.int .i64 a0, .int .u32 a1] w fun e w' => e = .returned (.agg #[.int .i64 r1, .int .i64 r2, .int .i64 r3, .int .i64 r4, .int .i64 r5]) ∧ Below w.heap.size w w' := by
 have hu23 := Try.underlying23
 have HB := zz (Below.refl w.heap.size w)
 have H : ((r02_Form.f a0).bind fun t161 => ((r02_in.f k t161 (⟨#[85, 74, 73, 72, 82]⟩ : ByteArray)).bind fun t163 => (if t163 = true then ((r01_Field.f k a1 7 5).bind fun t164 => (r02_try.j0 k a1 t161 a0 (wrap64 (t164)) 0 0 0)) else (r02_try.j0 k a1 t161 a0 0 0 0 0)))) = some (r1, r2, r3, r4, r5) := h
 clear h
 replace H := Option.bind_eq_some_iff.mp H
 obtain ⟨t161, A30, H⟩ := H
 replace H : ((r02_in.f k t161 (⟨#[85, 74, 73, 72, 82]⟩ : ByteArray)).bind fun t163 => (if t163 = true then ((r01_Field.f k a1 7 5).bind fun t164 => (r02_try.j0 k a1 t161 a0 (wrap64 (t164)) 0 0 0)) else (r02_try.j0 k a1 t161 a0 0 0 0 0))) = some (r1, r2, r3, r4, r5) := H
 have A3 := zz A30
 clear A30
 replace H := Option.bind_eq_some_iff.mp H
 obtain ⟨t163, A40, H⟩ := H
 replace H : (if t163 = true then ((r01_Field.f k a1 7 5).bind fun t164 => (r02_try.j0 k a1 t161 a0 (wrap64 (t164)) 0 0 0)) else (r02_try.j0 k a1 t161 a0 0 0 0 0)) = some (r1, r2, r3, r4, r5) := H
 have A4 := zz A40
 clear A40
 have HC5 := zz H
 clear H
 go_enter Try.func62, Try.ntmps62
 go_upto_if 16 with (first | ((with_reducible refine gate_dst (N := 4) rfl ?_); refine box_event ?hg (N := 4) ?hd (cs := #[.int .i64 0, .int .i64 0, .int .i64 0, .int .i64 0, .int .i64 0]) (t := 23) ?hr ?_; (case hd => rfl); (case hg => rfl); (case hr => first | (go_simp; done) | (go_simp; rfl)); intro gb160 hg w6 hbox hb; have n0_ := zz (below_step zzb hb); have n1_ := zz (hbox); have n2_ := zz ((zzn hg : w.heap.size ≤ gb160)); have n3_ := zz ((zzn hg : w.heap.size ≤ gb160)); clear HB; have HB := n0_; have BK160 := n1_; have GW160 := n2_; have GE160 := n3_; clear n0_ n1_ n2_ n3_; clear hb hbox hg) | ((with_reducible refine gate_callee (f := 31) rfl ?_); refine goesL_ (some 12) rfl rfl Try.func31 (by kernel_rfl) rfl #[.int .i64 a0] rfl zza ?_; (with_reducible refine (r02_Form.calls a0 t161 _ A3.out).mono ?_); rintro e w' ⟨rfl, ⟨nd, rfl⟩⟩; refine ⟨_, rfl, ?_⟩; (try (rw [drewN_self w6]; generalize hq_ : World.drewN w6 _ = w6; have n0_ : Aside0 (w6.heap[gb160]? = some (.cells #[.int .i64 0, .int .i64 0, .int .i64 0, .int .i64 0, .int .i64 0] 23 (0, 0))) := ⟨by rw [← hq_]; exact (zzk BK160.out)⟩; have n1_ : Aside0 (Below w.heap.size w w6) := ⟨by rw [← hq_]; exact zzg⟩; clear BK160 HB hq_; have BK160 := n0_; have HB := n1_; clear n0_ n1_))) | ((with_reducible refine gate_dst (N := 6) rfl ?_); refine box_event ?hg (N := 6) ?hd (cs := #[.int .i64 0, .int .i64 0, .int .i64 0, .int .i64 0, .int .i64 0]) (t := 23) ?hr ?_; (case hd => rfl); (case hg => rfl); (case hr => first | (go_simp; done) | (go_simp; rfl)); intro gb162 hg w7 hbox hb; have n0_ := zz (zzkb BK160.out hb); have n1_ := zz (below_step zzg hb); have n2_ := zz (hbox); have n3_ := zz ((zzn hg : w.heap.size ≤ gb162)); have n4_ := zz ((zzn hg : w.heap.size ≤ gb162)); have n5_ := zz ((zzx hg BK160.out : gb160 ≠ gb162)); have n6_ := zz ((zzy hg BK160.out : gb162 ≠ gb160)); clear BK160; clear HB; have BK160 := n0_; have HB := n1_; have BK162 := n2_; have GW162 := n3_; have GE162 := n4_; have NB160_162 := n5_; have NB162_160 := n6_; clear n0_ n1_ n2_ n3_ n4_ n5_ n6_; clear hb hbox hg; have hnb8 := NB162_160.out; have hnc8 := NB160_162.out; obtain ⟨hcz9_0, hcz9_1, hcz9_2, hcz9_3, hcz9_4⟩ := zzc5 BK162.out (.int .i64 0) (.int .i64 0) (.int .i64 0) (.int .i64 0) (.int .i64 0); obtain ⟨hfz9_0, hfz9_1, hfz9_2, hfz9_3, hfz9_4⟩ := zzf5 BK162.out) | ((with_reducible refine gate_callee (f := 54) rfl ?_); refine goesL_ (some 16) rfl rfl Try.func54 (by kernel_rfl) rfl #[.int .u8 t161, .string (⟨#[85, 74, 73, 72, 82]⟩ : ByteArray)] rfl zza ?_; (with_reducible refine (r02_in.calls k t161 (⟨#[85, 74, 73, 72, 82]⟩ : ByteArray) t163 _ A4.out).mono ?_); rintro e w' ⟨rfl, ⟨nd, rfl⟩⟩; refine ⟨_, rfl, ?_⟩))
 (try simp only [Act.put, List.setIfInBounds_toArray, List.set_cons_zero, List.set_cons_succ])
 go_cut [] (fun wc => ∃ (kq : Nat) (x163001_4 : Int), Aside0 (r02_try.j0 kq a1 t161 a0 x163001_4 0 0 0 = some (r1, r2, r3, r4, r5)) ∧ Aside0 (kq ≤ k) ∧ Aside0 (wc.heap[gb160]? = some (.cells #[.int .i64 0, .int .i64 0, .int .i64 0, .int .i64 0, .int .i64 0] 23 (0, 0))) ∧ Aside0 (wc.heap[gb162]? = some (.cells #[.int .i64 a0, .int .i64 x163001_4, .int .i64 0, .int .i64 0, .int .i64 0] 23 (0, 0))) ∧ Aside0 (Below w.heap.size w wc))
 case first =>
  have H := HC5.out
  clear HC5
  by_cases c10 : t163 = true
  ·subst c10
   have H1 : ((r01_Field.f k a1 7 5).bind fun t164 => (r02_try.j0 k a1 t161 a0 (wrap64 (t164)) 0 0 0)) = some (r1, r2, r3, r4, r5) := by rw [if_pos rfl] at H; exact H
   clear H
   have H := H1
   clear H1
   replace H := Option.bind_eq_some_iff.mp H
   obtain ⟨t164, A110, H⟩ := H
   replace H : (r02_try.j0 k a1 t161 a0 (wrap64 (t164)) 0 0 0) = some (r1, r2, r3, r4, r5) := H
   have A11 := zz A110
   clear A110
   have H' := zz H
   clear H
   go_wp2_with (first | ((with_reducible refine gate_callee (f := 79) rfl ?_); refine goesL_ (some 18) rfl rfl Try.func79 (by kernel_rfl) rfl #[.int .u32 a1, .int .i64 7, .int .i64 5] rfl zza ?_; (with_reducible refine (r01_Field.calls k a1 7 5 t164 _ A11.out).mono ?_); rintro e w12 ⟨rfl, hb⟩; refine ⟨_, rfl, ?_⟩; have n0_ := zz (blk_below (g := gb160) (o := .cells #[.int .i64 0, .int .i64 0, .int .i64 0, .int .i64 0, .int .i64 0] 23 (0, 0)) (by refine zzk ?_; refine blk_far ?_ NB160_162.out _; refine zzk ?_; refine blk_far ?_ NB160_162.out _; refine zzk ?_; refine blk_far ?_ NB160_162.out _; refine zzk ?_; refine blk_far ?_ NB160_162.out _; refine zzk ?_; refine blk_far ?_ NB160_162.out _; refine zzk ?_; exact BK160.out) hb); have n1_ := zz (blk_below (g := gb162) (o := .cells #[.int .i64 a0, .int .i64 0, .int .i64 0, .int .i64 0, .int .i64 0] 23 (0, 0)) (by refine zzk ?_; refine blk_put (cs := #[.int .i64 a0, .int .i64 0, .int .i64 0, .int .i64 0, .int .i64 0]) ?_ 4 _ rfl; refine zzk ?_; refine blk_put (cs := #[.int .i64 a0, .int .i64 0, .int .i64 0, .int .i64 0, .int .i64 0]) ?_ 3 _ rfl; refine zzk ?_; refine blk_put (cs := #[.int .i64 a0, .int .i64 0, .int .i64 0, .int .i64 0, .int .i64 0]) ?_ 2 _ rfl; refine zzk ?_; refine blk_put (cs := #[.int .i64 a0, .int .i64 0, .int .i64 0, .int .i64 0, .int .i64 0]) ?_ 1 _ rfl; refine zzk ?_; refine blk_put (cs := #[.int .i64 0, .int .i64 0, .int .i64 0, .int .i64 0, .int .i64 0]) ?_ 0 _ rfl; refine zzk ?_; exact BK162.out) hb); have n2_ := zz (below_step zzg hb); clear BK160; clear BK162; clear HB; have BK160 := n0_; have BK162 := n1_; have HB := n2_; clear n0_ n1_ n2_; (try clear hb); (try clear hb2); (try clear hk); (try clear hi); have hnb13 := NB162_160.out; have hnc13 := NB160_162.out; obtain ⟨hcz14_0, hcz14_1, hcz14_2, hcz14_3, hcz14_4⟩ := zzc5 BK162.out (.int .i64 a0) (.int .i64 0) (.int .i64 0) (.int .i64 0) (.int .i64 0); obtain ⟨hfz14_0, hfz14_1, hfz14_2, hfz14_3, hfz14_4⟩ := zzf5 BK162.out))
   go_meet
   case rel => exact ⟨_, (wrap64 (t164)), H', ⟨by first | omega | exact Nat.le_refl _⟩, ⟨by refine zzk ?_; refine blk_far ?_ NB160_162.out _; refine zzk ?_; exact BK160.out⟩, ⟨by refine zzk ?_; refine blk_put (cs := #[.int .i64 a0, .int .i64 0, .int .i64 0, .int .i64 0, .int .i64 0]) ?_ 1 _ rfl; refine zzk ?_; exact BK162.out⟩, ⟨zzg⟩⟩
  ·replace c10 := Bool.eq_false_iff.mpr c10
   subst c10
   have H1 : (r02_try.j0 k a1 t161 a0 0 0 0 0) = some (r1, r2, r3, r4, r5) := by rw [if_neg (show ¬ (false = true) by decide)] at H; exact H
   clear H
   have H := H1
   clear H1
   have H' := zz H
   clear H
   go_wp2
   go_meet
   case rel => exact ⟨_, (0), H', ⟨by first | omega | exact Nat.le_refl _⟩, ⟨by refine zzk ?_; refine blk_far ?_ NB160_162.out _; refine zzk ?_; refine blk_far ?_ NB160_162.out _; refine zzk ?_; refine blk_far ?_ NB160_162.out _; refine zzk ?_; refine blk_far ?_ NB160_162.out _; refine zzk ?_; refine blk_far ?_ NB160_162.out _; refine zzk ?_; exact BK160.out⟩, ⟨by refine zzk ?_; refine blk_put (cs := #[.int .i64 a0, .int .i64 0, .int .i64 0, .int .i64 0, .int .i64 0]) ?_ 4 _ rfl; refine zzk ?_; refine blk_put (cs := #[.int .i64 a0, .int .i64 0, .int .i64 0, .int .i64 0, .int .i64 0]) ?_ 3 _ rfl; refine zzk ?_; refine blk_put (cs := #[.int .i64 a0, .int .i64 0, .int .i64 0, .int .i64 0, .int .i64 0]) ?_ 2 _ rfl; refine zzk ?_; refine blk_put (cs := #[.int .i64 a0, .int .i64 0, .int .i64 0, .int .i64 0, .int .i64 0]) ?_ 1 _ rfl; refine zzk ?_; refine blk_put (cs := #[.int .i64 0, .int .i64 0, .int .i64 0, .int .i64 0, .int .i64 0]) ?_ 0 _ rfl; refine zzk ?_; exact BK162.out⟩, ⟨zzg⟩⟩
 case rest =>
  clear HC5
  try clear c1
  try clear p2
  try clear c3
  try clear c5
  try clear c6
  try clear p6
  try clear c7
  try clear c8
  try clear c10
  try clear c13
  try clear hcz14_0 hcz14_1 hcz14_2 hcz14_3 hcz14_4
  try clear hcz9_0 hcz9_1 hcz9_2 hcz9_3 hcz9_4
  try clear hfz14_0 hfz14_1 hfz14_2 hfz14_3 hfz14_4
  try clear hfz9_0 hfz9_1 hfz9_2 hfz9_3 hfz9_4
  obtain ⟨kq, x163001_4, HA, HJ4, BK160, BK162, HB⟩ := hcut
  cases kq with
  | zero => exact absurd HA.out (by simp [r02_try.j0])
  | succ kj4 =>
   have H := HA.out
   clear HA
   simp only [r02_try.j0] at H
   replace H := Option.bind_eq_some_iff.mp H
   obtain ⟨t165, A150, H⟩ := H
   replace H : (if t165 = true then ((r01_Field.f kj4 a1 15 5).bind fun t166 => (r02_try.j1 kj4 a1 t161 a0 x163001_4 (wrap64 (t166)) 0 0)) else (r02_try.j1 kj4 a1 t161 a0 x163001_4 0 0 0)) = some (r1, r2, r3, r4, r5) := H
   have A15 := zz A150
   clear A150
   have HC16 := zz H
   clear H
   go_upto_if 22 with (first | ((with_reducible refine gate_callee (f := 54) rfl ?_); refine goesL_ (some 22) rfl rfl Try.func54 (by kernel_rfl) rfl #[.int .u8 t161, .string (⟨#[73, 72, 66, 83, 82]⟩ : ByteArray)] rfl zza ?_; (with_reducible refine (r02_in.calls kj4 t161 (⟨#[73, 72, 66, 83, 82]⟩ : ByteArray) t165 _ A15.out).mono ?_); rintro e w' ⟨rfl, ⟨nd, rfl⟩⟩; refine ⟨_, rfl, ?_⟩))
   (try simp only [Act.put, List.setIfInBounds_toArray, List.set_cons_zero, List.set_cons_succ])
   go_cut [] (fun wc => ∃ (kq : Nat) (x163002_15 : Int), Aside0 (r02_try.j1 kq a1 t161 a0 x163001_4 x163002_15 0 0 = some (r1, r2, r3, r4, r5)) ∧ Aside0 (kq ≤ kj4) ∧ Aside0 (wc.heap[gb160]? = some (.cells #[.int .i64 0, .int .i64 0, .int .i64 0, .int .i64 0, .int .i64 0] 23 (0, 0))) ∧ Aside0 (wc.heap[gb162]? = some (.cells #[.int .i64 a0, .int .i64 x163001_4, .int .i64 x163002_15, .int .i64 0, .int .i64 0] 23 (0, 0))) ∧ Aside0 (Below w.heap.size w wc))
   case first =>
    have H := HC16.out
    clear HC16
    by_cases c17 : t165 = true
    ·subst c17
     have H1 : ((r01_Field.f kj4 a1 15 5).bind fun t166 => (r02_try.j1 kj4 a1 t161 a0 x163001_4 (wrap64 (t166)) 0 0)) = some (r1, r2, r3, r4, r5) := by rw [if_pos rfl] at H; exact H
     clear H
     have H := H1
     clear H1
     replace H := Option.bind_eq_some_iff.mp H
     obtain ⟨t166, A180, H⟩ := H
     replace H : (r02_try.j1 kj4 a1 t161 a0 x163001_4 (wrap64 (t166)) 0 0) = some (r1, r2, r3, r4, r5) := H
     have A18 := zz A180
     clear A180
     have H' := zz H
     clear H
     go_wp2_with (first | ((with_reducible refine gate_callee (f := 79) rfl ?_); refine goesL_ (some 24) rfl rfl Try.func79 (by kernel_rfl) rfl #[.int .u32 a1, .int .i64 15, .int .i64 5] rfl zza ?_; (with_reducible refine (r01_Field.calls kj4 a1 15 5 t166 _ A18.out).mono ?_); rintro e w19 ⟨rfl, hb⟩; refine ⟨_, rfl, ?_⟩; have n0_ := zz (zzkb BK160.out hb); have n1_ := zz (zzkb BK162.out hb); have n2_ := zz (below_step zzg hb); clear BK160; clear BK162; clear HB; have BK160 := n0_; have BK162 := n1_; have HB := n2_; clear n0_ n1_ n2_; (try clear hb); (try clear hb2); (try clear hk); (try clear hi); have hnb20 := NB162_160.out; have hnc20 := NB160_162.out; obtain ⟨hcz21_0, hcz21_1, hcz21_2, hcz21_3, hcz21_4⟩ := zzc5 BK162.out (.int .i64 a0) (.int .i64 x163001_4) (.int .i64 0) (.int .i64 0) (.int .i64 0); obtain ⟨hfz21_0, hfz21_1, hfz21_2, hfz21_3, hfz21_4⟩ := zzf5 BK162.out))
     go_meet
     case rel => exact ⟨_, (wrap64 (t166)), H', ⟨by have := HJ4.out; first | omega | exact Nat.le_refl _⟩, ⟨by refine zzk ?_; refine blk_far ?_ NB160_162.out _; refine zzk ?_; exact BK160.out⟩, ⟨by refine zzk ?_; refine blk_put (cs := #[.int .i64 a0, .int .i64 x163001_4, .int .i64 0, .int .i64 0, .int .i64 0]) ?_ 2 _ rfl; refine zzk ?_; exact BK162.out⟩, ⟨zzg⟩⟩
    ·replace c17 := Bool.eq_false_iff.mpr c17
     subst c17
     have H1 : (r02_try.j1 kj4 a1 t161 a0 x163001_4 0 0 0) = some (r1, r2, r3, r4, r5) := by rw [if_neg (show ¬ (false = true) by decide)] at H; exact H
     clear H
     have H := H1
     clear H1
     have H' := zz H
     clear H
     go_wp2
     go_meet
     case rel => exact ⟨_, (0), H', ⟨by have := HJ4.out; first | omega | exact Nat.le_refl _⟩, ⟨by refine zzk ?_; exact BK160.out⟩, ⟨by refine zzk ?_; exact BK162.out⟩, ⟨zzg⟩⟩
   case rest =>
    clear HC16
    try clear c1
    try clear c2
    try clear p2
    try clear c3
    try clear c5
    try clear c6
    try clear p6
    try clear c7
    try clear c8
    try clear c10
    try clear c13
    try clear c17
    try clear c20
    try clear hcz14_0 hcz14_1 hcz14_2 hcz14_3 hcz14_4
    try clear hcz21_0 hcz21_1 hcz21_2 hcz21_3 hcz21_4
    try clear hcz9_0 hcz9_1 hcz9_2 hcz9_3 hcz9_4
    try clear hfz14_0 hfz14_1 hfz14_2 hfz14_3 hfz14_4
    try clear hfz21_0 hfz21_1 hfz21_2 hfz21_3 hfz21_4
    try clear hfz9_0 hfz9_1 hfz9_2 hfz9_3 hfz9_4
    try clear p2
    try clear p6
    obtain ⟨kq, x163002_15, HA, HJ15, BK160, BK162, HB⟩ := hcut
    cases kq with
    | zero => exact absurd HA.out (by simp [r02_try.j1])
    | succ kj15 =>
     have H := HA.out
     clear HA
     simp only [r02_try.j1] at H
     replace H := Option.bind_eq_some_iff.mp H
     obtain ⟨t167, A220, H⟩ := H
     replace H : (if t167 = true then ((r01_Field.f kj15 a1 20 5).bind fun t168 => (r02_try.j2 kj15 a1 t161 a0 x163001_4 x163002_15 (wrap64 (t168)) 0)) else (r02_try.j2 kj15 a1 t161 a0 x163001_4 x163002_15 0 0)) = some (r1, r2, r3, r4, r5) := H
     have A22 := zz A220
     clear A220
     have HC23 := zz H
     clear H
     go_upto_if 28 with (first | ((with_reducible refine gate_callee (f := 54) rfl ?_); refine goesL_ (some 28) rfl rfl Try.func54 (by kernel_rfl) rfl #[.int .u8 t161, .string (⟨#[66, 83, 82]⟩ : ByteArray)] rfl zza ?_; (with_reducible refine (r02_in.calls kj15 t161 (⟨#[66, 83, 82]⟩ : ByteArray) t167 _ A22.out).mono ?_); rintro e w' ⟨rfl, ⟨nd, rfl⟩⟩; refine ⟨_, rfl, ?_⟩))
     (try simp only [Act.put, List.setIfInBounds_toArray, List.set_cons_zero, List.set_cons_succ])
     go_cut [] (fun wc => ∃ (kq : Nat) (x163003_22 : Int), Aside0 (r02_try.j2 kq a1 t161 a0 x163001_4 x163002_15 x163003_22 0 = some (r1, r2, r3, r4, r5)) ∧ Aside0 (kq ≤ kj15) ∧ Aside0 (wc.heap[gb160]? = some (.cells #[.int .i64 0, .int .i64 0, .int .i64 0, .int .i64 0, .int .i64 0] 23 (0, 0))) ∧ Aside0 (wc.heap[gb162]? = some (.cells #[.int .i64 a0, .int .i64 x163001_4, .int .i64 x163002_15, .int .i64 x163003_22, .int .i64 0] 23 (0, 0))) ∧ Aside0 (Below w.heap.size w wc))
     case first =>
      have H := HC23.out
      clear HC23
      by_cases c24 : t167 = true
      ·subst c24
       have H1 : ((r01_Field.f kj15 a1 20 5).bind fun t168 => (r02_try.j2 kj15 a1 t161 a0 x163001_4 x163002_15 (wrap64 (t168)) 0)) = some (r1, r2, r3, r4, r5) := by rw [if_pos rfl] at H; exact H
       clear H
       have H := H1
       clear H1
       replace H := Option.bind_eq_some_iff.mp H
       obtain ⟨t168, A250, H⟩ := H
       replace H : (r02_try.j2 kj15 a1 t161 a0 x163001_4 x163002_15 (wrap64 (t168)) 0) = some (r1, r2, r3, r4, r5) := H
       have A25 := zz A250
       clear A250
       have H' := zz H
       clear H
       go_wp2_with (first | ((with_reducible refine gate_callee (f := 79) rfl ?_); refine goesL_ (some 30) rfl rfl Try.func79 (by kernel_rfl) rfl #[.int .u32 a1, .int .i64 20, .int .i64 5] rfl zza ?_; (with_reducible refine (r01_Field.calls kj15 a1 20 5 t168 _ A25.out).mono ?_); rintro e w26 ⟨rfl, hb⟩; refine ⟨_, rfl, ?_⟩; have n0_ := zz (zzkb BK160.out hb); have n1_ := zz (zzkb BK162.out hb); have n2_ := zz (below_step zzg hb); clear BK160; clear BK162; clear HB; have BK160 := n0_; have BK162 := n1_; have HB := n2_; clear n0_ n1_ n2_; (try clear hb); (try clear hb2); (try clear hk); (try clear hi); have hnb27 := NB162_160.out; have hnc27 := NB160_162.out; obtain ⟨hcz28_0, hcz28_1, hcz28_2, hcz28_3, hcz28_4⟩ := zzc5 BK162.out (.int .i64 a0) (.int .i64 x163001_4) (.int .i64 x163002_15) (.int .i64 0) (.int .i64 0); obtain ⟨hfz28_0, hfz28_1, hfz28_2, hfz28_3, hfz28_4⟩ := zzf5 BK162.out))
       go_meet
       case rel => exact ⟨_, (wrap64 (t168)), H', ⟨by have := HJ4.out; have := HJ15.out; first | omega | exact Nat.le_refl _⟩, ⟨by refine zzk ?_; refine blk_far ?_ NB160_162.out _; refine zzk ?_; exact BK160.out⟩, ⟨by refine zzk ?_; refine blk_put (cs := #[.int .i64 a0, .int .i64 x163001_4, .int .i64 x163002_15, .int .i64 0, .int .i64 0]) ?_ 3 _ rfl; refine zzk ?_; exact BK162.out⟩, ⟨zzg⟩⟩
      ·replace c24 := Bool.eq_false_iff.mpr c24
       subst c24
       have H1 : (r02_try.j2 kj15 a1 t161 a0 x163001_4 x163002_15 0 0) = some (r1, r2, r3, r4, r5) := by rw [if_neg (show ¬ (false = true) by decide)] at H; exact H
       clear H
       have H := H1
       clear H1
       have H' := zz H
       clear H
       go_wp2
       go_meet
       case rel => exact ⟨_, (0), H', ⟨by have := HJ4.out; have := HJ15.out; first | omega | exact Nat.le_refl _⟩, ⟨by refine zzk ?_; exact BK160.out⟩, ⟨by refine zzk ?_; exact BK162.out⟩, ⟨zzg⟩⟩
     case rest =>
      clear HC23
      try clear c1
      try clear c2
      try clear p2
      try clear c3
      try clear c5
      try clear c6
      try clear p6
      try clear c7
      try clear c8
      try clear c10
      try clear c13
      try clear c17
      try clear c20
      try clear c24
      try clear c27
      try clear hcz14_0 hcz14_1 hcz14_2 hcz14_3 hcz14_4
      try clear hcz21_0 hcz21_1 hcz21_2 hcz21_3 hcz21_4
      try clear hcz28_0 hcz28_1 hcz28_2 hcz28_3 hcz28_4
      try clear hcz9_0 hcz9_1 hcz9_2 hcz9_3 hcz9_4
      try clear hfz14_0 hfz14_1 hfz14_2 hfz14_3 hfz14_4
      try clear hfz21_0 hfz21_1 hfz21_2 hfz21_3 hfz21_4
      try clear hfz28_0 hfz28_1 hfz28_2 hfz28_3 hfz28_4
      try clear hfz9_0 hfz9_1 hfz9_2 hfz9_3 hfz9_4
      try clear p2
      try clear p6
      obtain ⟨kq, x163003_22, HA, HJ22, BK160, BK162, HB⟩ := hcut
      cases kq with
      | zero => exact absurd HA.out (by simp [r02_try.j2])
      | succ kj22 =>
       have H := HA.out
       clear HA
       simp only [r02_try.j2] at H
       replace H := Option.bind_eq_some_iff.mp H
       obtain ⟨t169, A290, H⟩ := H
       replace H : (r02_try.l0 kj22 a1 t161 t169 0 1 0 a0 x163001_4 x163002_15 x163003_22 0) = some (r1, r2, r3, r4, r5) := H
       have A29 := zz A290
       clear A290
       have H' := zz H
       clear H
       go_wp2_with (first | ((with_reducible refine gate_callee (f := 80) rfl ?_); refine goesL_ (some 34) rfl rfl Try.func80 (by kernel_rfl) rfl #[.int .u8 t161] rfl zza ?_; (with_reducible refine (r02_places.calls t161 t169 _ A29.out).mono ?_); rintro e w30 ⟨v170, rfl, ho0, hb⟩; refine ⟨_, rfl, ?_⟩; have n0_ := zz (Kd.R_lower ho0 (below_size zzg)); have n1_ := zz (zzkb BK160.out hb); have n2_ := zz (zzkb BK162.out hb); have n3_ := zz (below_step zzg hb); clear BK160; clear BK162; clear HB; have HO171 := n0_; have BK160 := n1_; have BK162 := n2_; have HB := n3_; clear n0_ n1_ n2_ n3_; (try clear hb); (try clear hb2); (try clear hk); (try clear hi); (try clear ho0)))
       go_loopg [8, 9, 10] kj22 (fun kq v8 v9 v10 w' => ∃ (x8_4 : Int) (x9_4 : Int) (x10_4 : Int), v8 = .int .i64 x8_4 ∧ v9 = .int .i64 x9_4 ∧ v10 = .int .i64 x10_4 ∧ Aside0 (r02_try.l0 kq a1 t161 t169 x8_4 x9_4 x10_4 a0 x163001_4 x163002_15 x163003_22 0 = some (r1, r2, r3, r4, r5)) ∧ Aside0 (kq ≤ kj22) ∧ Aside0 (Kd.R (Kd.int .i64) 3 w' w.heap.size (fun _ => True) v170 t169) ∧ Aside0 (w'.heap[gb160]? = some (.cells #[.int .i64 0, .int .i64 0, .int .i64 0, .int .i64 0, .int .i64 0] 23 (0, 0))) ∧ Aside0 (w'.heap[gb162]? = some (.cells #[.int .i64 a0, .int .i64 x163001_4, .int .i64 x163002_15, .int .i64 x163003_22, .int .i64 0] 23 (0, 0))) ∧ Aside0 (Below w.heap.size w w'))
       case atStart => exact ⟨(0), (1), (0), (zzh), (zzh), (zzh), H', ⟨Nat.le_refl _⟩, ⟨by refine zzr ?_; exact HO171.out⟩, ⟨by refine zzk ?_; exact BK160.out⟩, ⟨by refine zzk ?_; exact BK162.out⟩, ⟨zzg⟩⟩
       case round =>
        clear H'
        try clear c1
        try clear c2
        try clear p2
        try clear c3
        try clear c5
        try clear c6
        try clear p6
        try clear c7
        try clear c8
        try clear c10
        try clear c13
        try clear c17
        try clear c20
        try clear c24
        try clear c27
        try clear hcz14_0 hcz14_1 hcz14_2 hcz14_3 hcz14_4
        try clear hcz21_0 hcz21_1 hcz21_2 hcz21_3 hcz21_4
        try clear hcz28_0 hcz28_1 hcz28_2 hcz28_3 hcz28_4
        try clear hcz9_0 hcz9_1 hcz9_2 hcz9_3 hcz9_4
        try clear hfz14_0 hfz14_1 hfz14_2 hfz14_3 hfz14_4
        try clear hfz21_0 hfz21_1 hfz21_2 hfz21_3 hfz21_4
        try clear hfz28_0 hfz28_1 hfz28_2 hfz28_3 hfz28_4
        try clear hfz9_0 hfz9_1 hfz9_2 hfz9_3 hfz9_4
        try clear p2
        try clear p6
        obtain ⟨x8_4, x9_4, x10_4, rfl, rfl, rfl, HA, HK4, HO_7, BK160, BK162, HB⟩ := hrel
        cases gk with
        | zero => exact absurd HA.out (by simp [r02_try.l0])
        | succ k4 =>
         have H := HA.out
         clear HA
         simp only [r02_try.l0] at H
         by_cases c31 : x10_4 < (t169.length : Int)
         ·rw [if_pos c31] at H
          have c31b0 : decide (x10_4 < (t169.length : Int)) = true := decide_eq_true c31
          clear c31
          have HC32 := zz H
          clear H
          obtain ⟨Ao33, co33, eo33⟩ := Kd.R_slice HO_7.out
          subst eo33
          go_upto_region 13 with (fail)
          go_cut [54] (fun v54 wc => ∃ (kq : Nat) (x54_31 : Bool), v54 = .bool x54_31 ∧ Aside0 (r02_try.j4 kq a1 t161 t169 x8_4 x9_4 x10_4 x54_31 a0 x163001_4 x163002_15 x163003_22 0 = some (r1, r2, r3, r4, r5)) ∧ Aside0 (kq ≤ k4) ∧ Aside0 (Kd.R (Kd.int .i64) 3 wc w.heap.size (fun _ => True) (.slice Ao33 t169.length co33) t169) ∧ Aside0 (wc.heap[gb160]? = some (.cells #[.int .i64 0, .int .i64 0, .int .i64 0, .int .i64 0, .int .i64 0] 23 (0, 0))) ∧ Aside0 (wc.heap[gb162]? = some (.cells #[.int .i64 a0, .int .i64 x163001_4, .int .i64 x163002_15, .int .i64 x163003_22, .int .i64 0] 23 (0, 0))) ∧ Aside0 (Below w.heap.size w wc))
          case first =>
           have H := HC32.out
           clear HC32
           by_cases c34 : 0 ≤ x10_4
           ·rw [if_pos c34] at H
            have c34b0 : decide (0 ≤ x10_4) = true := decide_eq_true c34
            clear c34
            (first | rw [c34b0] | (simp only [i64_w, i32_w]; rw [c34b0]) | skip)
            by_cases c35 : (rd t169 x10_4) ≥ 0
            ·rw [if_pos c35] at H
             have c35b0 : decide (0 ≤ (rd t169 x10_4)) = true := decide_eq_true c35
             clear c35
             replace H := Option.bind_eq_some_iff.mp H
             obtain ⟨t174, A360, H⟩ := H
             replace H : (r02_try.j4 k4 a1 t161 t169 x8_4 x9_4 x10_4 (t174 == 1) a0 x163001_4 x163002_15 x163003_22 0) = some (r1, r2, r3, r4, r5) := H
             have A36 := zz A360
             clear A360
             have H' := zz H
             clear H
             have p172 : 0 ≤ (x10_4 : Int) := of_decide_eq_true zzm
             have q172 : x10_4 < (t169.length : Int) := of_decide_eq_true zzm
             obtain ⟨ad172, e172, hx172_0⟩ := Kd.at_int (Kd.R_reads' HO_7.out).2.2 x10_4 p172 q172
             cases e172
             replace p172 := eq_true p172
             replace q172 := eq_true q172
             have p173 : 0 ≤ (x10_4 : Int) := of_decide_eq_true zzm
             have q173 : x10_4 < (t169.length : Int) := of_decide_eq_true zzm
             obtain ⟨ad173, e173, hx173_0⟩ := Kd.at_int (Kd.R_reads' HO_7.out).2.2 x10_4 p173 q173
             obtain rfl : ad172 = ad173 := (by injection e173)
             replace p173 := eq_true p173
             replace q173 := eq_true q173
             go_wp2_with (first | (go_at_call 81; (with_reducible refine (r01_Bit.calls a1 (rd t169 x10_4) t174 _ A36.out).mono ?_); rintro e w' ⟨rfl, ⟨nd, rfl⟩⟩))
             go_meet
             case rel => exact ⟨_, ((t174 == 1)), (zzh), H', ⟨by have := HJ4.out; have := HJ15.out; have := HJ22.out; have := HK4.out; first | omega | exact Nat.le_refl _⟩, ⟨by refine zzr ?_; exact HO_7.out⟩, ⟨by refine zzk ?_; exact BK160.out⟩, ⟨by refine zzk ?_; exact BK162.out⟩, ⟨zzg⟩⟩
            ·rw [if_neg c35] at H
             have c35b0 : decide (0 ≤ (rd t169 x10_4)) = false := decide_eq_false c35
             clear c35
             have H' := zz H
             clear H
             have p172 : 0 ≤ (x10_4 : Int) := of_decide_eq_true zzm
             have q172 : x10_4 < (t169.length : Int) := of_decide_eq_true zzm
             obtain ⟨ad172, e172, hx172_0⟩ := Kd.at_int (Kd.R_reads' HO_7.out).2.2 x10_4 p172 q172
             cases e172
             replace p172 := eq_true p172
             replace q172 := eq_true q172
             go_wp2
             go_meet
             case rel => exact ⟨_, (false), (zzh), H', ⟨by have := HJ4.out; have := HJ15.out; have := HJ22.out; have := HK4.out; first | omega | exact Nat.le_refl _⟩, ⟨by refine zzr ?_; exact HO_7.out⟩, ⟨by refine zzk ?_; exact BK160.out⟩, ⟨by refine zzk ?_; exact BK162.out⟩, ⟨zzg⟩⟩
           ·rw [if_neg c34] at H
            exact absurd H (by simp)
          case rest =>
           clear HC32
           try clear c1
           try clear p1
           try clear q1
           try clear hx1
           try clear c2
           try clear p2
           try clear c3
           try clear c5
           try clear c6
           try clear p6
           try clear c7
           try clear c8
           try clear c10
           try clear c13
           try clear c17
           try clear p17
           try clear q17
           try clear hx17
           try clear c20
           try clear c24
           try clear c27
           try clear c31
           try clear c31b0
           try clear c34
           try clear c34b0
           try clear c35
           try clear c35b0
           try clear hcz14_0 hcz14_1 hcz14_2 hcz14_3 hcz14_4
           try clear hcz21_0 hcz21_1 hcz21_2 hcz21_3 hcz21_4
           try clear hcz28_0 hcz28_1 hcz28_2 hcz28_3 hcz28_4
           try clear hcz9_0 hcz9_1 hcz9_2 hcz9_3 hcz9_4
           try clear hfz14_0 hfz14_1 hfz14_2 hfz14_3 hfz14_4
           try clear hfz21_0 hfz21_1 hfz21_2 hfz21_3 hfz21_4
           try clear hfz28_0 hfz28_1 hfz28_2 hfz28_3 hfz28_4
           try clear hfz9_0 hfz9_1 hfz9_2 hfz9_3 hfz9_4
           try clear hx172_0
           try clear hx173_0
           try clear p172
           try clear p173
           try clear p2
           try clear p6
           try clear q172
           try clear q173
           obtain ⟨kq, x54_31, rfl, HA, HJ31, HO_7, BK160, BK162, HB⟩ := hcut
           cases kq with
           | zero => exact absurd HA.out (by simp [r02_try.j4])
           | succ kj31 =>
            have H := HA.out
            clear HA
            simp only [r02_try.j4] at H
            by_cases c37 : x54_31 = true
            ·subst c37
             have H1 : (if x10_4 = (wrap64 ((t169.length : Int) - 1)) then ((r02_in.f kj31 t161 (⟨#[74, 73, 83, 66]⟩ : ByteArray)).bind fun t175 => (if t175 = true then (r02_try.l0 kj31 a1 t161 t169 (wrap64 ((wrap64 (x8_4 + x9_4)) - (wrap64 (2 * x9_4)))) (wrap64 (2 * x9_4)) (wrap64 (x10_4 + 1)) a0 x163001_4 x163002_15 x163003_22 0) else (r02_try.l0 kj31 a1 t161 t169 (wrap64 (x8_4 + x9_4)) (wrap64 (2 * x9_4)) (wrap64 (x10_4 + 1)) a0 x163001_4 x163002_15 x163003_22 0))) else (r02_try.l0 kj31 a1 t161 t169 (wrap64 (x8_4 + x9_4)) (wrap64 (2 * x9_4)) (wrap64 (x10_4 + 1)) a0 x163001_4 x163002_15 x163003_22 0)) = some (r1, r2, r3, r4, r5) := by rw [if_pos rfl] at H; exact H
             clear H
             have H := H1
             clear H1
             by_cases c38 : x10_4 = (wrap64 ((t169.length : Int) - 1))
             ·rw [if_pos c38] at H
              have c38b0 : (x10_4 == (wrap64 ((t169.length : Int) - 1))) = true := beq_iff_eq.mpr c38
              have c38b1 : (x10_4 != (wrap64 ((t169.length : Int) - 1))) = false := bne_eq_false_iff_eq.mpr c38
              clear c38
              replace H := Option.bind_eq_some_iff.mp H
              obtain ⟨t175, A390, H⟩ := H
              replace H : (if t175 = true then (r02_try.l0 kj31 a1 t161 t169 (wrap64 ((wrap64 (x8_4 + x9_4)) - (wrap64 (2 * x9_4)))) (wrap64 (2 * x9_4)) (wrap64 (x10_4 + 1)) a0 x163001_4 x163002_15 x163003_22 0) else (r02_try.l0 kj31 a1 t161 t169 (wrap64 (x8_4 + x9_4)) (wrap64 (2 * x9_4)) (wrap64 (x10_4 + 1)) a0 x163001_4 x163002_15 x163003_22 0)) = some (r1, r2, r3, r4, r5) := H
              have A39 := zz A390
              clear A390
              by_cases c40 : t175 = true
              ·subst c40
               have H1 : (r02_try.l0 kj31 a1 t161 t169 (wrap64 ((wrap64 (x8_4 + x9_4)) - (wrap64 (2 * x9_4)))) (wrap64 (2 * x9_4)) (wrap64 (x10_4 + 1)) a0 x163001_4 x163002_15 x163003_22 0) = some (r1, r2, r3, r4, r5) := by rw [if_pos rfl] at H; exact H
               clear H
               have H := H1
               clear H1
               have H' := zz H
               clear H
               go_wp2_with (first | (go_at_call 54; (with_reducible refine (r02_in.calls kj31 t161 (⟨#[74, 73, 83, 66]⟩ : ByteArray) true _ A39.out).mono ?_); rintro e w' ⟨rfl, ⟨nd, rfl⟩⟩))
               go_roundg kj31
               case measure => have := HJ4.out; have := HJ15.out; have := HJ22.out; have := HK4.out; have := HJ31.out; omega
               case rel => exact ⟨(wrap64 ((wrap64 (x8_4 + x9_4)) - (wrap64 (2 * x9_4)))), (wrap64 (2 * x9_4)), (wrap64 (x10_4 + 1)), (zzh), (zzh), (zzh), H', ⟨by have := HJ4.out; have := HJ15.out; have := HJ22.out; have := HK4.out; have := HJ31.out; omega⟩, ⟨by refine zzr ?_; exact HO_7.out⟩, ⟨by refine zzk ?_; exact BK160.out⟩, ⟨by refine zzk ?_; exact BK162.out⟩, ⟨zzg⟩⟩
              ·replace c40 := Bool.eq_false_iff.mpr c40
               subst c40
               have H1 : (r02_try.l0 kj31 a1 t161 t169 (wrap64 (x8_4 + x9_4)) (wrap64 (2 * x9_4)) (wrap64 (x10_4 + 1)) a0 x163001_4 x163002_15 x163003_22 0) = some (r1, r2, r3, r4, r5) := by rw [if_neg (show ¬ (false = true) by decide)] at H; exact H
               clear H
               have H := H1
               clear H1
               have H' := zz H
               clear H
               go_wp2_with (first | (go_at_call 54; (with_reducible refine (r02_in.calls kj31 t161 (⟨#[74, 73, 83, 66]⟩ : ByteArray) false _ A39.out).mono ?_); rintro e w' ⟨rfl, ⟨nd, rfl⟩⟩))
               go_roundg kj31
               case measure => have := HJ4.out; have := HJ15.out; have := HJ22.out; have := HK4.out; have := HJ31.out; omega
               case rel => exact ⟨(wrap64 (x8_4 + x9_4)), (wrap64 (2 * x9_4)), (wrap64 (x10_4 + 1)), (zzh), (zzh), (zzh), H', ⟨by have := HJ4.out; have := HJ15.out; have := HJ22.out; have := HK4.out; have := HJ31.out; omega⟩, ⟨by refine zzr ?_; exact HO_7.out⟩, ⟨by refine zzk ?_; exact BK160.out⟩, ⟨by refine zzk ?_; exact BK162.out⟩, ⟨zzg⟩⟩
             ·rw [if_neg c38] at H
              have c38b0 : (x10_4 == (wrap64 ((t169.length : Int) - 1))) = false := beq_eq_false_iff_ne.mpr c38
              have c38b1 : (x10_4 != (wrap64 ((t169.length : Int) - 1))) = true := bne_iff_ne.mpr c38
              have H' := zz H
              clear H
              go_wp2
              go_roundg kj31
              case measure => have := HJ4.out; have := HJ15.out; have := HJ22.out; have := HK4.out; have := HJ31.out; omega
              case rel => exact ⟨(wrap64 (x8_4 + x9_4)), (wrap64 (2 * x9_4)), (wrap64 (x10_4 + 1)), (zzh), (zzh), (zzh), H', ⟨by have := HJ4.out; have := HJ15.out; have := HJ22.out; have := HK4.out; have := HJ31.out; omega⟩, ⟨by refine zzr ?_; exact HO_7.out⟩, ⟨by refine zzk ?_; exact BK160.out⟩, ⟨by refine zzk ?_; exact BK162.out⟩, ⟨zzg⟩⟩
            ·replace c37 := Bool.eq_false_iff.mpr c37
             subst c37
             have H1 : (r02_try.l0 kj31 a1 t161 t169 x8_4 (wrap64 (2 * x9_4)) (wrap64 (x10_4 + 1)) a0 x163001_4 x163002_15 x163003_22 0) = some (r1, r2, r3, r4, r5) := by rw [if_neg (show ¬ (false = true) by decide)] at H; exact H
             clear H
             have H := H1
             clear H1
             have H' := zz H
             clear H
             go_wp2
             go_roundg kj31
             case measure => have := HJ4.out; have := HJ15.out; have := HJ22.out; have := HK4.out; have := HJ31.out; omega
             case rel => exact ⟨(x8_4), (wrap64 (2 * x9_4)), (wrap64 (x10_4 + 1)), (zzh), (zzh), (zzh), H', ⟨by have := HJ4.out; have := HJ15.out; have := HJ22.out; have := HK4.out; have := HJ31.out; omega⟩, ⟨by refine zzr ?_; exact HO_7.out⟩, ⟨by refine zzk ?_; exact BK160.out⟩, ⟨by refine zzk ?_; exact BK162.out⟩, ⟨zzg⟩⟩
         ·rw [if_neg c31] at H
          have c31b0 : decide (x10_4 < (t169.length : Int)) = false := decide_eq_false c31
          clear c31
          simp only [Option.some.injEq, Prod.mk.injEq] at H
          obtain ⟨rfl, rfl, rfl, rfl, rfl⟩ := H
          obtain ⟨Ao41, co41, eo41⟩ := Kd.R_slice HO_7.out
          subst eo41
          have hnb42 := NB162_160.out
          have hnc42 := NB160_162.out
          obtain ⟨hcz43_0, hcz43_1, hcz43_2, hcz43_3, hcz43_4⟩ := zzc5 BK162.out (.int .i64 a0) (.int .i64 x163001_4) (.int .i64 x163002_15) (.int .i64 x163003_22) (.int .i64 0)
          obtain ⟨hfz43_0, hfz43_1, hfz43_2, hfz43_3, hfz43_4⟩ := zzf5 BK162.out
          obtain ⟨hcz44_0, hcz44_1, hcz44_2, hcz44_3, hcz44_4⟩ := zzc5 BK160.out (.int .i64 0) (.int .i64 0) (.int .i64 0) (.int .i64 0) (.int .i64 0)
          obtain ⟨hfz44_0, hfz44_1, hfz44_2, hfz44_3, hfz44_4⟩ := zzf5 BK160.out
          go_wp2
          refine bodyPost_ret (results_cell_row rfl _ _ gb160 23 #[.int .i64 a0, .int .i64 x163001_4, .int .i64 x163002_15, .int .i64 x163003_22, .int .i64 x8_4] (0, 0) _ rfl (by refine zzk ?_; refine blk_put (cs := #[.int .i64 a0, .int .i64 x163001_4, .int .i64 x163002_15, .int .i64 x163003_22, .int .i64 0]) ?_ 4 _ rfl; refine zzk ?_; refine blk_put (cs := #[.int .i64 a0, .int .i64 x163001_4, .int .i64 x163002_15, .int .i64 0, .int .i64 0]) ?_ 3 _ rfl; refine zzk ?_; refine blk_put (cs := #[.int .i64 a0, .int .i64 x163001_4, .int .i64 0, .int .i64 0, .int .i64 0]) ?_ 2 _ rfl; refine zzk ?_; refine blk_put (cs := #[.int .i64 a0, .int .i64 0, .int .i64 0, .int .i64 0, .int .i64 0]) ?_ 1 _ rfl; refine zzk ?_; refine blk_put (cs := #[.int .i64 0, .int .i64 0, .int .i64 0, .int .i64 0, .int .i64 0]) ?_ 0 _ rfl; refine zzk ?_; refine blk_far ?_ NB160_162.out _; refine zzk ?_; exact BK160.out) Try.underlying23 rfl (by kernel_rfl)) rfl ?_
          exact ⟨zze, zzg⟩
def r02_ops.f  : Option (List Int) := some (([55, 23, 111, 103, 99, 99, 99, 99, 99, 99, 3, 3, 3, 3, 3, 35, 35, 35, 19, 19, 19, 19, 19, 19, 19, 19, 19, 51, 51, 51, 51, 51, 51, 51, 51, 51, 51, 51, 51, 51, 51, 51, 51, 51, 51, 115, 115] : List Int))
set_option maxHeartbeats 8000000 in
set_option maxRecDepth 100000 in
theorem r02_ops.calls  (r : List Int) (w : World) (h : r02_ops.f  = some r) :
  Calls Try.prog 82 #[] w fun e w' => ∃ v0_ : Value, e = .returned (v0_) ∧ Kd.R (Kd.int .u32) 24 w' w.heap.size (fun _ => True) v0_ r ∧ Below w.heap.size w w' := by
 have HB := zz (Below.refl w.heap.size w)
 have H : (some (([55, 23, 111, 103, 99, 99, 99, 99, 99, 99, 3, 3, 3, 3, 3, 35, 35, 35, 19, 19, 19, 19, 19, 19, 19, 19, 19, 51, 51, 51, 51, 51, 51, 51, 51, 51, 51, 51, 51, 51, 51, 51, 51, 51, 51, 115, 115] : List Int))) = some r := h
 clear h
 obtain ⟨y176, hy176⟩ : ∃ y_ : List Int, y_ = (([55, 23, 111, 103, 99, 99, 99, 99, 99, 99, 3, 3, 3, 3, 3, 35, 35, 35, 19, 19, 19, 19, 19, 19, 19, 19, 19, 51, 51, 51, 51, 51, 51, 51, 51, 51, 51, 51, 51, 51, 51, 51, 51, 51, 51, 115, 115] : List Int)) := ⟨_, rfl⟩
 replace H : (some y176) = some r := by first | (rw [hy176]; with_reducible exact H) | (have H2_ := (Option.bind_some _ _).symm.trans H; rw [hy176]; with_reducible exact H2_) | (have H2_ := (Option.bind_some _ _).symm.trans H; with_reducible exact H2_) | with_reducible exact H | (rw [hy176]; exact H) | exact H
 have Ny176 := zz hy176
 clear hy176
 obtain rfl := Option.some.inj H
 go_enter Try.func82, Try.ntmps82
 go_wp2_with (first | ((with_reducible refine gate_dst (N := 1) rfl ?_); refine Kd.R_lit (Kd.int .u32) _ 24 ?hg (N := 1) ?hd (xs := ([55, 23, 111, 103, 99, 99, 99, 99, 99, 99, 3, 3, 3, 3, 3, 35, 35, 35, 19, 19, 19, 19, 19, 19, 19, 19, 19, 51, 51, 51, 51, 51, 51, 51, 51, 51, 51, 51, 51, 51, 51, 51, 51, 51, 51, 115, 115] : List Int)) (inner := [.int .u32 55, .int .u32 23, .int .u32 111, .int .u32 103, .int .u32 99, .int .u32 99, .int .u32 99, .int .u32 99, .int .u32 99, .int .u32 99, .int .u32 3, .int .u32 3, .int .u32 3, .int .u32 3, .int .u32 3, .int .u32 35, .int .u32 35, .int .u32 35, .int .u32 19, .int .u32 19, .int .u32 19, .int .u32 19, .int .u32 19, .int .u32 19, .int .u32 19, .int .u32 19, .int .u32 19, .int .u32 51, .int .u32 51, .int .u32 51, .int .u32 51, .int .u32 51, .int .u32 51, .int .u32 51, .int .u32 51, .int .u32 51, .int .u32 51, .int .u32 51, .int .u32 51, .int .u32 51, .int .u32 51, .int .u32 51, .int .u32 51, .int .u32 51, .int .u32 51, .int .u32 115, .int .u32 115]) (ok := fun _ => True) (okp := fun _ => True) ?hr ?hp (fun _ hk => hk) trivial (Below.refl _ _) (Nat.le_refl _) (by simp) ?_; (case hd => rfl); (case hg => rfl); (case hr => first | (go_simp; done) | (go_simp; rfl)); (case hp => exact (zzu (zzu (zzu (zzu (zzu (zzu (zzu (zzu (zzu (zzu (zzu (zzu (zzu (zzu (zzu (zzu (zzu (zzu (zzu (zzu (zzu (zzu (zzu (zzu (zzu (zzu (zzu (zzu (zzu (zzu (zzu (zzu (zzu (zzu (zzu (zzu (zzu (zzu (zzu (zzu (zzu (zzu (zzu (zzu (zzu (zzu (zzu (Reps.none _ _))))))))))))))))))))))))))))))))))))))))))))))))); intro v177 w1 ho2 hb hg_ hnew_; clear hg_ hnew_; (first | rw [← Ny176.out] at ho2 | (simp only [Int.reduceToNat] at ho2; rw [← Ny176.out] at ho2)); have n0_ := zz (Kd.R_lower ho2 (below_size zzb)); have n1_ := zz (below_step zzb hb); clear HB; have HO178 := n0_; have HB := n1_; clear n0_ n1_; clear hb ho2))
 go_ret
 exact ⟨_, zze, by refine zzr ?_; exact HO178.out, zzg⟩
def r02_f3.f  : Option (List Int) := some (([0, 0, 0, 0, 0, 1, 4, 5, 6, 7, 0, 1, 2, 4, 5, 0, 1, 2, 0, 2, 3, 4, 6, 7, 1, 5, 5, 0, 0, 1, 2, 3, 4, 5, 5, 6, 7, 0, 1, 2, 3, 4, 5, 6, 7, 0, 0] : List Int))
set_option maxHeartbeats 8000000 in
set_option maxRecDepth 100000 in
theorem r02_f3.calls  (r : List Int) (w : World) (h : r02_f3.f  = some r) :
  Calls Try.prog 83 #[] w fun e w' => ∃ v0_ : Value, e = .returned (v0_) ∧ Kd.R (Kd.int .u32) 24 w' w.heap.size (fun _ => True) v0_ r ∧ Below w.heap.size w w' := by
 have HB := zz (Below.refl w.heap.size w)
 have H : (some (([0, 0, 0, 0, 0, 1, 4, 5, 6, 7, 0, 1, 2, 4, 5, 0, 1, 2, 0, 2, 3, 4, 6, 7, 1, 5, 5, 0, 0, 1, 2, 3, 4, 5, 5, 6, 7, 0, 1, 2, 3, 4, 5, 6, 7, 0, 0] : List Int))) = some r := h
 clear h
 obtain ⟨y179, hy179⟩ : ∃ y_ : List Int, y_ = (([0, 0, 0, 0, 0, 1, 4, 5, 6, 7, 0, 1, 2, 4, 5, 0, 1, 2, 0, 2, 3, 4, 6, 7, 1, 5, 5, 0, 0, 1, 2, 3, 4, 5, 5, 6, 7, 0, 1, 2, 3, 4, 5, 6, 7, 0, 0] : List Int)) := ⟨_, rfl⟩
 replace H : (some y179) = some r := by first | (rw [hy179]; with_reducible exact H) | (have H2_ := (Option.bind_some _ _).symm.trans H; rw [hy179]; with_reducible exact H2_) | (have H2_ := (Option.bind_some _ _).symm.trans H; with_reducible exact H2_) | with_reducible exact H | (rw [hy179]; exact H) | exact H
 have Ny179 := zz hy179
 clear hy179
 obtain rfl := Option.some.inj H
 go_enter Try.func83, Try.ntmps83
 go_wp2_with (first | ((with_reducible refine gate_dst (N := 1) rfl ?_); refine Kd.R_lit (Kd.int .u32) _ 24 ?hg (N := 1) ?hd (xs := ([0, 0, 0, 0, 0, 1, 4, 5, 6, 7, 0, 1, 2, 4, 5, 0, 1, 2, 0, 2, 3, 4, 6, 7, 1, 5, 5, 0, 0, 1, 2, 3, 4, 5, 5, 6, 7, 0, 1, 2, 3, 4, 5, 6, 7, 0, 0] : List Int)) (inner := [.int .u32 0, .int .u32 0, .int .u32 0, .int .u32 0, .int .u32 0, .int .u32 1, .int .u32 4, .int .u32 5, .int .u32 6, .int .u32 7, .int .u32 0, .int .u32 1, .int .u32 2, .int .u32 4, .int .u32 5, .int .u32 0, .int .u32 1, .int .u32 2, .int .u32 0, .int .u32 2, .int .u32 3, .int .u32 4, .int .u32 6, .int .u32 7, .int .u32 1, .int .u32 5, .int .u32 5, .int .u32 0, .int .u32 0, .int .u32 1, .int .u32 2, .int .u32 3, .int .u32 4, .int .u32 5, .int .u32 5, .int .u32 6, .int .u32 7, .int .u32 0, .int .u32 1, .int .u32 2, .int .u32 3, .int .u32 4, .int .u32 5, .int .u32 6, .int .u32 7, .int .u32 0, .int .u32 0]) (ok := fun _ => True) (okp := fun _ => True) ?hr ?hp (fun _ hk => hk) trivial (Below.refl _ _) (Nat.le_refl _) (by simp) ?_; (case hd => rfl); (case hg => rfl); (case hr => first | (go_simp; done) | (go_simp; rfl)); (case hp => exact (zzu (zzu (zzu (zzu (zzu (zzu (zzu (zzu (zzu (zzu (zzu (zzu (zzu (zzu (zzu (zzu (zzu (zzu (zzu (zzu (zzu (zzu (zzu (zzu (zzu (zzu (zzu (zzu (zzu (zzu (zzu (zzu (zzu (zzu (zzu (zzu (zzu (zzu (zzu (zzu (zzu (zzu (zzu (zzu (zzu (zzu (zzu (Reps.none _ _))))))))))))))))))))))))))))))))))))))))))))))))); intro v180 w1 ho2 hb hg_ hnew_; clear hg_ hnew_; (first | rw [← Ny179.out] at ho2 | (simp only [Int.reduceToNat] at ho2; rw [← Ny179.out] at ho2)); have n0_ := zz (Kd.R_lower ho2 (below_size zzb)); have n1_ := zz (below_step zzb hb); clear HB; have HO181 := n0_; have HB := n1_; clear n0_ n1_; clear hb ho2))
 go_ret
 exact ⟨_, zze, by refine zzr ?_; exact HO181.out, zzg⟩
def r02_f7.f  : Option (List Int) := some (([0, 0, 0, 0, 0, 0, 0, 0, 0, 0, 0, 0, 0, 0, 0, 0, 0, 0, 0, 0, 0, 0, 0, 0, 0, 0, 32, 0, 32, 0, 0, 0, 0, 0, 32, 0, 0, 1, 1, 1, 1, 1, 1, 1, 1, 0, 0] : List Int))
set_option maxHeartbeats 8000000 in
set_option maxRecDepth 100000 in
theorem r02_f7.calls  (r : List Int) (w : World) (h : r02_f7.f  = some r) :
  Calls Try.prog 84 #[] w fun e w' => ∃ v0_ : Value, e = .returned (v0_) ∧ Kd.R (Kd.int .u32) 24 w' w.heap.size (fun _ => True) v0_ r ∧ Below w.heap.size w w' := by
 have HB := zz (Below.refl w.heap.size w)
 have H : (some (([0, 0, 0, 0, 0, 0, 0, 0, 0, 0, 0, 0, 0, 0, 0, 0, 0, 0, 0, 0, 0, 0, 0, 0, 0, 0, 32, 0, 32, 0, 0, 0, 0, 0, 32, 0, 0, 1, 1, 1, 1, 1, 1, 1, 1, 0, 0] : List Int))) = some r := h
 clear h
 obtain ⟨y182, hy182⟩ : ∃ y_ : List Int, y_ = (([0, 0, 0, 0, 0, 0, 0, 0, 0, 0, 0, 0, 0, 0, 0, 0, 0, 0, 0, 0, 0, 0, 0, 0, 0, 0, 32, 0, 32, 0, 0, 0, 0, 0, 32, 0, 0, 1, 1, 1, 1, 1, 1, 1, 1, 0, 0] : List Int)) := ⟨_, rfl⟩
 replace H : (some y182) = some r := by first | (rw [hy182]; with_reducible exact H) | (have H2_ := (Option.bind_some _ _).symm.trans H; rw [hy182]; with_reducible exact H2_) | (have H2_ := (Option.bind_some _ _).symm.trans H; with_reducible exact H2_) | with_reducible exact H | (rw [hy182]; exact H) | exact H
 have Ny182 := zz hy182
 clear hy182
 obtain rfl := Option.some.inj H
 go_enter Try.func84, Try.ntmps84
 go_wp2_with (first | ((with_reducible refine gate_dst (N := 1) rfl ?_); refine Kd.R_lit (Kd.int .u32) _ 24 ?hg (N := 1) ?hd (xs := ([0, 0, 0, 0, 0, 0, 0, 0, 0, 0, 0, 0, 0, 0, 0, 0, 0, 0, 0, 0, 0, 0, 0, 0, 0, 0, 32, 0, 32, 0, 0, 0, 0, 0, 32, 0, 0, 1, 1, 1, 1, 1, 1, 1, 1, 0, 0] : List Int)) (inner := [.int .u32 0, .int .u32 0, .int .u32 0, .int .u32 0, .int .u32 0, .int .u32 0, .int .u32 0, .int .u32 0, .int .u32 0, .int .u32 0, .int .u32 0, .int .u32 0, .int .u32 0, .int .u32 0, .int .u32 0, .int .u32 0, .int .u32 0, .int .u32 0, .int .u32 0, .int .u32 0, .int .u32 0, .int .u32 0, .int .u32 0, .int .u32 0, .int .u32 0, .int .u32 0, .int .u32 32, .int .u32 0, .int .u32 32, .int .u32 0, .int .u32 0, .int .u32 0, .int .u32 0, .int .u32 0, .int .u32 32, .int .u32 0, .int .u32 0, .int .u32 1, .int .u32 1, .int .u32 1, .int .u32 1, .int .u32 1, .int .u32 1, .int .u32 1, .int .u32 1, .int .u32 0, .int .u32 0]) (ok := fun _ => True) (okp := fun _ => True) ?hr ?hp (fun _ hk => hk) trivial (Below.refl _ _) (Nat.le_refl _) (by simp) ?_; (case hd => rfl); (case hg => rfl); (case hr => first | (go_simp; done) | (go_simp; rfl)); (case hp => exact (zzu (zzu (zzu (zzu (zzu (zzu (zzu (zzu (zzu (zzu (zzu (zzu (zzu (zzu (zzu (zzu (zzu (zzu (zzu (zzu (zzu (zzu (zzu (zzu (zzu (zzu (zzu (zzu (zzu (zzu (zzu (zzu (zzu (zzu (zzu (zzu (zzu (zzu (zzu (zzu (zzu (zzu (zzu (zzu (zzu (zzu (zzu (Reps.none _ _))))))))))))))))))))))))))))))))))))))))))))))))); intro v183 w1 ho2 hb hg_ hnew_; clear hg_ hnew_; (first | rw [← Ny182.out] at ho2 | (simp only [Int.reduceToNat] at ho2; rw [← Ny182.out] at ho2)); have n0_ := zz (Kd.R_lower ho2 (below_size zzb)); have n1_ := zz (below_step zzb hb); clear HB; have HO184 := n0_; have HB := n1_; clear n0_ n1_; clear hb ho2))
 go_ret
 exact ⟨_, zze, by refine zzr ?_; exact HO184.out, zzg⟩
end Go.Proofs.Ytekenddkoahjgaa.Q
