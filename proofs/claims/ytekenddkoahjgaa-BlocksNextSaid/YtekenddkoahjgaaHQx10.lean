import Derived.Test.YtekenddkoahjgaaHZc
import Derived.Test.YtekenddkoahjgaaHQx5
import Derived.Test.YtekenddkoahjgaaHQx9
namespace Go.Proofs.Ytekenddkoahjgaa.Q
open Go.RowKit Go.Proofs.YtekenddkoahjgaaW.PrintWords Go.Proofs.YtekenddkoahjgaaW.PrintLast Go.Proofs.YtekenddkoahjgaaW.PrintMore
attribute [local go_sem] max2_int min2_int max_two min_two max_three min_three max_four min_four
attribute [local go_sem] imax_u32 imax_u8 isg_u32 isg_u8
set_option linter.unusedVariables false
set_option linter.unusedSimpArgs false
def inst_Decode.l0 : Nat → Int → Int → Option (Int × Int × Int × Int × Int × Int)
  | 0, _, _ => none
  | k + 1, a0, i => if i < 47 then (if 0 ≤ i then ((inst_tells.f k (kGet i.toNat).1 (kGet i.toNat).2.1 (kGet i.toNat).2.2.1 (kGet i.toNat).2.2.2 a0).bind fun t => (if t = true then ((inst_imm.f k (kGet i.toNat).1 a0).bind fun m => ((inst_has.f k (kGet i.toNat).1).bind fun hh =>
      ((if hh.1 = true then (word_Field.f k a0 7 5).bind fun q => some (wrap64 q) else some 0).bind fun r1 => ((if hh.2.1 = true then (word_Field.f k a0 15 5).bind fun q => some (wrap64 q) else some 0).bind fun r2 => ((if hh.2.2 = true then (word_Field.f k a0 20 5).bind fun q => some (wrap64 q) else some 0).bind fun r3 =>
      some (i, r1, r2, r3, m, 0)))))) else (inst_Decode.l0 k a0 (wrap64 (i + 1))))) else none) else some (0, 0, 0, 0, 0, 20)
def inst_Decode.f (k : Nat) (a0 : Int) : Option (Int × Int × Int × Int × Int × Int) := if a0 = 115 then some (45, 0, 0, 0, 0, 0) else (if a0 = 1048691 then some (46, 0, 0, 0, 0, 0) else inst_Decode.l0 k a0 0)
theorem inst_Decode.mono_l : ∀ k, (∀ y0 y1, LeO (inst_Decode.l0 k y0 y1) (inst_Decode.l0 (k + 1) y0 y1))
 | 0 => fun _ _ r h => by simp [inst_Decode.l0] at h
 | k + 1 => by
  have ih0 := inst_Decode.mono_l k
  intro y0 y1
  unfold inst_Decode.l0
  repeat' first
   | (with_reducible exact ih0 _ _)
   | (with_reducible exact inst_tells.mono _ _ _ _ _ _)
   | (with_reducible exact inst_imm.mono _ _ _)
   | (with_reducible exact inst_has.mono _ _)
   | (with_reducible exact word_Field.mono _ _ _ _)
   | (with_reducible exact LeO.refl _)
   | (with_reducible exact LeO.none _)
   | (with_reducible refine LeO.ite ?_ ?_)
   | (with_reducible refine LeO.bind ?_ (fun _ => ?_))
theorem inst_Decode.mono : ∀ a0 k, LeO (inst_Decode.f k a0) (inst_Decode.f (k + 1) a0) := by
 intro a0 k
 unfold inst_Decode.f
 exact LeO.ite (LeO.refl _) (LeO.ite (LeO.refl _) (inst_Decode.mono_l k _ _))
theorem wp_abs {P : Program} {c : Code} {Q : Exit → Act → World → Prop} {a : Act} {W : World} (R : World → Prop) (h : R W) (k : ∀ W', R W' → Code.wp P c Q a W') : Code.wp P c Q a W := k W h
theorem field_or (c : Bool) (k : Nat) (w p b r : Int) (h : (if c = true then (word_Field.f k w p b).bind fun q => some (wrap64 q) else some 0) = some r) : (c = true ∧ ∃ q, word_Field.f k w p b = some q ∧ r = wrap64 q) ∨ (c = false ∧ r = 0) := by
 cases c
 ·right; rw [if_neg (by decide)] at h; exact ⟨rfl, (Option.some.inj h).symm⟩
 ·left; rw [if_pos rfl] at h; obtain ⟨q, h1, h2⟩ := Option.bind_eq_some_iff.mp h; exact ⟨rfl, q, h1, (Option.some.inj h2).symm⟩
set_option maxHeartbeats 3200000 in
set_option maxRecDepth 100000 in
theorem inst_Decode.calls (k : Nat) (a0 : Int) (r1 r2 r3 r4 r5 r6 : Int) (w : World) (h : inst_Decode.f k a0 = some (r1, r2, r3, r4, r5, r6)) :
  Calls Try.prog 60 #[.int .u32 a0] w fun e w' => e = .returned (.tuple #[.agg #[.int .i64 r1, .int .i64 r2, .int .i64 r3, .int .i64 r4, .int .i64 r5], .int .i64 r6]) ∧ Below w.heap.size w w' := by
 have hu24 := Try.underlying23
 have hu107 := Try.underlying74
 have HB := zz (Below.refl w.heap.size w)
 unfold inst_Decode.f at h
 by_cases c1 : a0 = 115
 ·rw [if_pos c1] at h
  subst c1
  simp only [Option.some.injEq, Prod.mk.injEq] at h
  obtain ⟨rfl, rfl, rfl, rfl, rfl, rfl⟩ := h
  go_enter Try.func60, Try.ntmps60
  go_wp2_with ((with_reducible refine gate_dst (N := 2) rfl ?_); refine box_event ?hg (N := 2) ?hd (cs := #[.int .i64 0, .int .i64 0, .int .i64 0, .int .i64 0, .int .i64 0]) (t := 23) ?hr ?_; (case hd => rfl); (case hg => rfl); (case hr => first | (go_simp; done) | (go_simp; rfl)); intro gb2 hg w2 hbox hb; have n0_ := zz (below_step HB.out hb); have BK0 := zz hbox; have GE0 := zz (zzn hg : w.heap.size ≤ gb2); clear HB; have HB := n0_; clear n0_ hb hbox hg; obtain ⟨x0, x1, x2, x3, x4⟩ := zzc5 BK0.out (.int .i64 0) (.int .i64 0) (.int .i64 0) (.int .i64 0) (.int .i64 0); obtain ⟨v0, v1, v2, v3, v4⟩ := zzf5 BK0.out)
  refine bodyPost_ret (results_ct rfl _ _ gb2 23 #[.int .i64 45, .int .i64 0, .int .i64 0, .int .i64 0, .int .i64 0] (0, 0) _ rfl (by refine blk_put (cs := #[.int .i64 45, .int .i64 0, .int .i64 0, .int .i64 0, .int .i64 0]) ?_ 4 _ rfl; refine blk_put (cs := #[.int .i64 45, .int .i64 0, .int .i64 0, .int .i64 0, .int .i64 0]) ?_ 3 _ rfl; refine blk_put (cs := #[.int .i64 45, .int .i64 0, .int .i64 0, .int .i64 0, .int .i64 0]) ?_ 2 _ rfl; refine blk_put (cs := #[.int .i64 45, .int .i64 0, .int .i64 0, .int .i64 0, .int .i64 0]) ?_ 1 _ rfl; refine blk_put (cs := #[.int .i64 0, .int .i64 0, .int .i64 0, .int .i64 0, .int .i64 0]) ?_ 0 _ rfl; exact BK0.out) Try.underlying23 rfl (by kernel_rfl)) rfl ?_
  exact ⟨rfl, by repeat (first | exact HB.out | refine below_set ?_ GE0.out)⟩
 rw [if_neg c1] at h
 by_cases c2 : a0 = 1048691
 ·rw [if_pos c2] at h
  subst c2
  clear c1
  simp only [Option.some.injEq, Prod.mk.injEq] at h
  obtain ⟨rfl, rfl, rfl, rfl, rfl, rfl⟩ := h
  go_enter Try.func60, Try.ntmps60
  go_wp2_with ((with_reducible refine gate_dst (N := 2) rfl ?_); refine box_event ?hg (N := 2) ?hd (cs := #[.int .i64 0, .int .i64 0, .int .i64 0, .int .i64 0, .int .i64 0]) (t := 23) ?hr ?_; (case hd => rfl); (case hg => rfl); (case hr => first | (go_simp; done) | (go_simp; rfl)); intro gb2 hg w2 hbox hb; have n0_ := zz (below_step HB.out hb); have BK0 := zz hbox; have GE0 := zz (zzn hg : w.heap.size ≤ gb2); clear HB; have HB := n0_; clear n0_ hb hbox hg; obtain ⟨x0, x1, x2, x3, x4⟩ := zzc5 BK0.out (.int .i64 0) (.int .i64 0) (.int .i64 0) (.int .i64 0) (.int .i64 0); obtain ⟨v0, v1, v2, v3, v4⟩ := zzf5 BK0.out)
  refine bodyPost_ret (results_ct rfl _ _ gb2 23 #[.int .i64 46, .int .i64 0, .int .i64 0, .int .i64 0, .int .i64 0] (0, 0) _ rfl (by refine blk_put (cs := #[.int .i64 46, .int .i64 0, .int .i64 0, .int .i64 0, .int .i64 0]) ?_ 4 _ rfl; refine blk_put (cs := #[.int .i64 46, .int .i64 0, .int .i64 0, .int .i64 0, .int .i64 0]) ?_ 3 _ rfl; refine blk_put (cs := #[.int .i64 46, .int .i64 0, .int .i64 0, .int .i64 0, .int .i64 0]) ?_ 2 _ rfl; refine blk_put (cs := #[.int .i64 46, .int .i64 0, .int .i64 0, .int .i64 0, .int .i64 0]) ?_ 1 _ rfl; refine blk_put (cs := #[.int .i64 0, .int .i64 0, .int .i64 0, .int .i64 0, .int .i64 0]) ?_ 0 _ rfl; exact BK0.out) Try.underlying23 rfl (by kernel_rfl)) rfl ?_
  exact ⟨rfl, by repeat (first | exact HB.out | refine below_set ?_ GE0.out)⟩
 rw [if_neg c2] at h
 have n1 : (a0 == 115) = false := beq_eq_false_iff_ne.mpr c1
 have n2 : (a0 == 1048691) = false := beq_eq_false_iff_ne.mpr c2
 clear c1 c2
 have H' := zz h
 clear h
 go_enter Try.func60, Try.ntmps60
 go_wp2_with (first | ((with_reducible refine gate_dst (N := 2) rfl ?_); refine box_event ?hg (N := 2) ?hd (cs := #[.int .i64 0, .int .i64 0, .int .i64 0, .int .i64 0, .int .i64 0]) (t := 23) ?hr ?_; (case hd => rfl); (case hg => rfl); (case hr => first | (go_simp; done) | (go_simp; rfl)); intro gb2 hg w2 hbox hb; have n0_ := zz (below_step zzb hb); have BK0 := zz hbox; have GE0 := zz (zzn hg : w.heap.size ≤ gb2); clear HB; have HB := n0_; clear n0_ hb hbox hg) | (go_at_call 46; refine (kinds_calls _).mono ?_; rintro e w1 ⟨rfl, hb⟩; have n0_ := zz (blk_below BK0.out hb); have n1_ := zz (below_step HB.out hb); clear HB BK0 hb; have BK0 := n0_; have HB := n1_; clear n0_ n1_))
 go_loopg [18] k (fun kq v18 w' => ∃ i : Int, v18 = .int .i64 i ∧ Aside0 (inst_Decode.l0 kq a0 i = some (r1, r2, r3, r4, r5, r6)) ∧ Aside0 (kq ≤ k) ∧ Aside0 (w'.heap[gb2]? = some (.cells #[.int .i64 0, .int .i64 0, .int .i64 0, .int .i64 0, .int .i64 0] 23 (0, 0))) ∧ Aside0 (Below w.heap.size w w'))
 case atStart => exact ⟨0, rfl, H', ⟨Nat.le_refl _⟩, BK0, HB⟩
 case round =>
  clear H' BK0 HB
  try clear p2
  obtain ⟨i, rfl, HA, HK1, BK0, HB⟩ := hrel
  cases gk with
  | zero => exact absurd HA.out (by simp [inst_Decode.l0])
  | succ k1 =>
   have H := HA.out
   clear HA
   simp only [inst_Decode.l0] at H
   by_cases c3 : i < 47
   ·rw [if_pos c3] at H
    by_cases c4 : 0 ≤ i
    ·rw [if_pos c4] at H
     obtain ⟨n, rfl⟩ := Int.eq_ofNat_of_zero_le c4
     rw [Int.toNat_natCast] at H
     have hi0 := kinds_index n (by omega)
     obtain ⟨a, b, c, d, hk⟩ := kGet_some n
     rw [hk] at H hi0
     have hi : ∀ w : World, (Instr.index 75 (.agg kCells) (.int .i64 (n : Int))).run Try.prog w = .ok (.agg #[.int .u8 a, .int .u32 b, .int .u32 c, .int .u32 d]) w := hi0
     clear hi0 hk c4
     have c3b0 : decide ((n : Int) < 47) = true := decide_eq_true c3
     clear c3
     generalize (n : Int) = j at *
     obtain ⟨t, A1, H⟩ := Option.bind_eq_some_iff.mp H
     have HT := zz A1
     clear A1
     cases t with
     | false =>
      rw [if_neg (by decide)] at H
      have H' := zz H
      clear H
      go_wp2_with (first | ((with_reducible refine gate_dst (N := 5) rfl ?_); refine box_event ?hg (N := 5) ?hd (cs := #[.int .u8 0, .int .u32 0, .int .u32 0, .int .u32 0]) (t := 74) ?hr ?_; (case hd => rfl); (case hg => rfl); (case hr => first | (go_simp; done) | (go_simp; rfl)); intro gb5 hg w5 hbox hb; have m0_ := zz (blk_below BK0.out hb); have m1_ := zz (below_step HB.out hb); have BK5 := zz hbox; have GE5 := zz (zzn hg : w.heap.size ≤ gb5); have NE := zz ((by rw [hg]; exact Nat.ne_of_lt (blk_lt BK0.out)) : gb2 ≠ gb5); clear HB BK0; have BK0 := m0_; have HB := m1_; clear m0_ m1_ hb hbox hg; have hnb := NE.out; have hnc := Ne.symm hnb; obtain ⟨z0, z1, z2, z3⟩ := zzc4 BK5.out (.int .u8 0) (.int .u32 0) (.int .u32 0) (.int .u32 0); obtain ⟨y0, y1, y2, y3⟩ := zzf4 BK5.out) | ((go_at_call 76; (with_reducible refine (inst_tells.calls k1 a b c d a0 false _ HT.out).mono ?_); rintro e w7 ⟨rfl, hb⟩; have m5_ := zz (blk_below (g := gb5) (o := .cells #[.int .u8 a, .int .u32 b, .int .u32 c, .int .u32 d] 74 (0, 0)) (by refine zzk ?_; refine blk_put (cs := #[.int .u8 a, .int .u32 b, .int .u32 c, .int .u32 0]) ?_ 3 _ rfl; refine zzk ?_; refine blk_put (cs := #[.int .u8 a, .int .u32 b, .int .u32 0, .int .u32 0]) ?_ 2 _ rfl; refine zzk ?_; refine blk_put (cs := #[.int .u8 a, .int .u32 0, .int .u32 0, .int .u32 0]) ?_ 1 _ rfl; refine zzk ?_; refine blk_put (cs := #[.int .u8 0, .int .u32 0, .int .u32 0, .int .u32 0]) ?_ 0 _ rfl; refine zzk ?_; exact BK5.out) hb); have m0_ := zz (blk_below (g := gb2) (o := .cells #[.int .i64 0, .int .i64 0, .int .i64 0, .int .i64 0, .int .i64 0] 23 (0, 0)) (by refine zzk ?_; refine blk_far ?_ NE.out _; refine zzk ?_; refine blk_far ?_ NE.out _; refine zzk ?_; refine blk_far ?_ NE.out _; refine zzk ?_; refine blk_far ?_ NE.out _; refine zzk ?_; exact BK0.out) hb); have m1_ := zz (below_step zzg hb); clear BK0 BK5 HB hb; have BK0 := m0_; have BK5 := m5_; have HB := m1_; clear m0_ m5_ m1_)))
      go_roundg k1
      case measure => have := HK1.out; omega
      case rel => exact ⟨_, rfl, H', ⟨by have := HK1.out; omega⟩, BK0, HB⟩
     | true =>
      rw [if_pos rfl] at H
      obtain ⟨m, A1, H⟩ := Option.bind_eq_some_iff.mp H
      have HM := zz A1
      clear A1
      obtain ⟨⟨h1, h2, h3⟩, A1, H⟩ := Option.bind_eq_some_iff.mp H
      have HH := zz A1
      clear A1
      obtain ⟨q1, A1, H⟩ := Option.bind_eq_some_iff.mp H
      obtain ⟨q2, A2, H⟩ := Option.bind_eq_some_iff.mp H
      obtain ⟨q3, A3, H⟩ := Option.bind_eq_some_iff.mp H
      simp only [Option.some.injEq, Prod.mk.injEq] at H
      obtain ⟨rfl, rfl, rfl, rfl, rfl, rfl⟩ := H
      go_upto_region 12 with (first | ((with_reducible refine gate_dst (N := 5) rfl ?_); refine box_event ?hg (N := 5) ?hd (cs := #[.int .u8 0, .int .u32 0, .int .u32 0, .int .u32 0]) (t := 74) ?hr ?_; (case hd => rfl); (case hg => rfl); (case hr => first | (go_simp; done) | (go_simp; rfl)); intro gb5 hg w5 hbox hb; have m0_ := zz (blk_below BK0.out hb); have m1_ := zz (below_step HB.out hb); have BK5 := zz hbox; have GE5 := zz (zzn hg : w.heap.size ≤ gb5); have NE := zz ((by rw [hg]; exact Nat.ne_of_lt (blk_lt BK0.out)) : gb2 ≠ gb5); clear HB BK0; have BK0 := m0_; have HB := m1_; clear m0_ m1_ hb hbox hg; have hnb := NE.out; have hnc := Ne.symm hnb; obtain ⟨z0, z1, z2, z3⟩ := zzc4 BK5.out (.int .u8 0) (.int .u32 0) (.int .u32 0) (.int .u32 0); obtain ⟨y0, y1, y2, y3⟩ := zzf4 BK5.out) | ((go_at_call 76; (with_reducible refine (inst_tells.calls k1 a b c d a0 true _ HT.out).mono ?_); rintro e w7 ⟨rfl, hb⟩; have m5_ := zz (blk_below (g := gb5) (o := .cells #[.int .u8 a, .int .u32 b, .int .u32 c, .int .u32 d] 74 (0, 0)) (by refine zzk ?_; refine blk_put (cs := #[.int .u8 a, .int .u32 b, .int .u32 c, .int .u32 0]) ?_ 3 _ rfl; refine zzk ?_; refine blk_put (cs := #[.int .u8 a, .int .u32 b, .int .u32 0, .int .u32 0]) ?_ 2 _ rfl; refine zzk ?_; refine blk_put (cs := #[.int .u8 a, .int .u32 0, .int .u32 0, .int .u32 0]) ?_ 1 _ rfl; refine zzk ?_; refine blk_put (cs := #[.int .u8 0, .int .u32 0, .int .u32 0, .int .u32 0]) ?_ 0 _ rfl; refine zzk ?_; exact BK5.out) hb); have m0_ := zz (blk_below (g := gb2) (o := .cells #[.int .i64 0, .int .i64 0, .int .i64 0, .int .i64 0, .int .i64 0] 23 (0, 0)) (by refine zzk ?_; refine blk_far ?_ NE.out _; refine zzk ?_; refine blk_far ?_ NE.out _; refine zzk ?_; refine blk_far ?_ NE.out _; refine zzk ?_; refine blk_far ?_ NE.out _; refine zzk ?_; exact BK0.out) hb); have m1_ := zz (below_step zzg hb); clear BK0 BK5 HB hb; have BK0 := m0_; have BK5 := m5_; have HB := m1_; clear m0_ m5_ m1_; have r0 : w7.cell? ⟨gb5, 0, none⟩ = some (.int .u8 a) := (blk_cell BK5.out 0).trans rfl)) | ((go_at_call 77; (with_reducible refine (inst_imm.calls k1 a a0 m _ HM.out).mono ?_); rintro e w8 ⟨rfl, hb⟩; have m5_ := zz (blk_below BK5.out hb); have m0_ := zz (blk_below BK0.out hb); have m1_ := zz (below_step HB.out hb); clear BK0 BK5 HB hb r0; have BK0 := m0_; have BK5 := m5_; have HB := m1_; clear m0_ m5_ m1_)) | ((with_reducible refine gate_dst (N := 6) rfl ?_); refine box_event ?hg (N := 6) ?hd (cs := #[.int .i64 0, .int .i64 0, .int .i64 0, .int .i64 0, .int .i64 0]) (t := 23) ?hr ?_; (case hd => rfl); (case hg => rfl); (case hr => first | (go_simp; done) | (go_simp; rfl)); intro gb6 hg w6 hbox hb; have m0_ := zz (blk_below BK0.out hb); have m5_ := zz (blk_below BK5.out hb); have m1_ := zz (below_step HB.out hb); have BK6 := zz hbox; have GE6 := zz (zzn hg : w.heap.size ≤ gb6); have NE2 := zz ((by rw [hg]; exact Nat.ne_of_lt (blk_lt BK0.out)) : gb2 ≠ gb6); have NE5 := zz ((by rw [hg]; exact Nat.ne_of_lt (blk_lt BK5.out)) : gb5 ≠ gb6); clear HB BK0 BK5; have BK0 := m0_; have BK5 := m5_; have HB := m1_; clear m0_ m5_ m1_ hb hbox hg; have hnd := NE2.out; have hne := Ne.symm hnd; have hnf := NE5.out; have hng := Ne.symm hnf; obtain ⟨z0, z1, z2, z3, z4⟩ := zzc5 BK6.out (.int .i64 0) (.int .i64 0) (.int .i64 0) (.int .i64 0) (.int .i64 0); obtain ⟨y0, y1, y2, y3, y4⟩ := zzf5 BK6.out; have r0 : w6.cell? ⟨gb5, 0, none⟩ = some (.int .u8 a) := (blk_cell BK5.out 0).trans rfl; obtain ⟨x0, x1, x2, x3, x4⟩ := zzc5 BK0.out (.int .i64 0) (.int .i64 0) (.int .i64 0) (.int .i64 0) (.int .i64 0); obtain ⟨v0, v1, v2, v3, v4⟩ := zzf5 BK0.out) | ((go_at_call 47; (with_reducible refine (inst_has.calls k1 a _ _ _ _ HH.out).mono ?_); rintro e w9 ⟨rfl, ⟨nd, rfl⟩⟩)))
      clear r0 x0 x1 x2 x3 x4 v0 v1 v2 v3 v4 y0 y1 y2 y3 y4 z0 z1 z2 z3 z4 hnf hng hnb hnc hi n1 n2 c3b0
      refine wp_abs (fun W => W.heap[gb6]? = some (.cells #[.int .i64 j, .int .i64 0, .int .i64 0, .int .i64 0, .int .i64 m] 23 (0, 0)) ∧ W.heap[gb2]? = some (.cells #[.int .i64 0, .int .i64 0, .int .i64 0, .int .i64 0, .int .i64 0] 23 (0, 0)) ∧ Below w.heap.size w W) ⟨by refine zzk ?_; refine blk_put (cs := #[.int .i64 j, .int .i64 0, .int .i64 0, .int .i64 0, .int .i64 0]) ?_ 4 _ rfl; refine zzk ?_; refine blk_put (cs := #[.int .i64 j, .int .i64 0, .int .i64 0, .int .i64 0, .int .i64 0]) ?_ 3 _ rfl; refine zzk ?_; refine blk_put (cs := #[.int .i64 j, .int .i64 0, .int .i64 0, .int .i64 0, .int .i64 0]) ?_ 2 _ rfl; refine zzk ?_; refine blk_put (cs := #[.int .i64 j, .int .i64 0, .int .i64 0, .int .i64 0, .int .i64 0]) ?_ 1 _ rfl; refine zzk ?_; refine blk_put (cs := #[.int .i64 0, .int .i64 0, .int .i64 0, .int .i64 0, .int .i64 0]) ?_ 0 _ rfl; refine zzk ?_; exact BK6.out, by refine zzk ?_; refine blk_far ?_ NE2.out _; refine zzk ?_; refine blk_far ?_ NE2.out _; refine zzk ?_; refine blk_far ?_ NE2.out _; refine zzk ?_; refine blk_far ?_ NE2.out _; refine zzk ?_; refine blk_far ?_ NE2.out _; refine zzk ?_; exact BK0.out, zzg⟩ ?_
      clear BK6 BK0 BK5 HB HT HM HH
      rintro W ⟨BK6, BK0, HB⟩; replace BK6 := zz BK6; replace BK0 := zz BK0; replace HB := zz HB; obtain ⟨z0, z1, z2, z3, z4⟩ := zzc5 BK6.out (.int .i64 j) (.int .i64 0) (.int .i64 0) (.int .i64 0) (.int .i64 m); obtain ⟨y0, y1, y2, y3, y4⟩ := zzf5 BK6.out; obtain ⟨x0, x1, x2, x3, x4⟩ := zzc5 BK0.out (.int .i64 0) (.int .i64 0) (.int .i64 0) (.int .i64 0) (.int .i64 0); obtain ⟨v0, v1, v2, v3, v4⟩ := zzf5 BK0.out
      rcases field_or _ _ _ _ _ _ A1 with ⟨rfl, f1, E1, rfl⟩ | ⟨rfl, rfl⟩ <;> clear A1
      ·go_upto_region 14 with ((go_at_call 78; (with_reducible refine (word_Field.calls k1 a0 7 5 _ _ E1).mono ?_); rintro e w10 ⟨rfl, ⟨nd, rfl⟩⟩))
       clear x0 x1 x2 x3 x4 v0 v1 v2 v3 v4 y0 y1 y2 y3 y4 z0 z1 z2 z3 z4
       refine wp_abs (fun W => W.heap[gb6]? = some (.cells #[.int .i64 j, .int .i64 (wrap64 f1), .int .i64 0, .int .i64 0, .int .i64 m] 23 (0, 0)) ∧ W.heap[gb2]? = some (.cells #[.int .i64 0, .int .i64 0, .int .i64 0, .int .i64 0, .int .i64 0] 23 (0, 0)) ∧ Below w.heap.size w W) ⟨by refine zzk ?_; refine blk_put (cs := #[.int .i64 j, .int .i64 0, .int .i64 0, .int .i64 0, .int .i64 m]) ?_ 1 _ rfl; refine zzk ?_; exact BK6.out, by refine zzk ?_; refine blk_far ?_ NE2.out _; refine zzk ?_; exact BK0.out, zzg⟩ ?_
       clear BK6 BK0 HB E1
       rintro W ⟨BK6, BK0, HB⟩; replace BK6 := zz BK6; replace BK0 := zz BK0; replace HB := zz HB; obtain ⟨z0, z1, z2, z3, z4⟩ := zzc5 BK6.out (.int .i64 j) (.int .i64 ((wrap64 f1))) (.int .i64 0) (.int .i64 0) (.int .i64 m); obtain ⟨y0, y1, y2, y3, y4⟩ := zzf5 BK6.out; obtain ⟨x0, x1, x2, x3, x4⟩ := zzc5 BK0.out (.int .i64 0) (.int .i64 0) (.int .i64 0) (.int .i64 0) (.int .i64 0); obtain ⟨v0, v1, v2, v3, v4⟩ := zzf5 BK0.out
       rcases field_or _ _ _ _ _ _ A2 with ⟨rfl, f2, E2, rfl⟩ | ⟨rfl, rfl⟩ <;> clear A2
       ·go_upto_region 16 with ((go_at_call 78; (with_reducible refine (word_Field.calls k1 a0 15 5 _ _ E2).mono ?_); rintro e w10 ⟨rfl, ⟨nd, rfl⟩⟩))
        clear x0 x1 x2 x3 x4 v0 v1 v2 v3 v4 y0 y1 y2 y3 y4 z0 z1 z2 z3 z4
        refine wp_abs (fun W => W.heap[gb6]? = some (.cells #[.int .i64 j, .int .i64 (wrap64 f1), .int .i64 (wrap64 f2), .int .i64 0, .int .i64 m] 23 (0, 0)) ∧ W.heap[gb2]? = some (.cells #[.int .i64 0, .int .i64 0, .int .i64 0, .int .i64 0, .int .i64 0] 23 (0, 0)) ∧ Below w.heap.size w W) ⟨by refine zzk ?_; refine blk_put (cs := #[.int .i64 j, .int .i64 (wrap64 f1), .int .i64 0, .int .i64 0, .int .i64 m]) ?_ 2 _ rfl; refine zzk ?_; exact BK6.out, by refine zzk ?_; refine blk_far ?_ NE2.out _; refine zzk ?_; exact BK0.out, zzg⟩ ?_
        clear BK6 BK0 HB E2
        rintro W ⟨BK6, BK0, HB⟩; replace BK6 := zz BK6; replace BK0 := zz BK0; replace HB := zz HB; obtain ⟨z0, z1, z2, z3, z4⟩ := zzc5 BK6.out (.int .i64 j) (.int .i64 ((wrap64 f1))) (.int .i64 ((wrap64 f2))) (.int .i64 0) (.int .i64 m); obtain ⟨y0, y1, y2, y3, y4⟩ := zzf5 BK6.out; obtain ⟨x0, x1, x2, x3, x4⟩ := zzc5 BK0.out (.int .i64 0) (.int .i64 0) (.int .i64 0) (.int .i64 0) (.int .i64 0); obtain ⟨v0, v1, v2, v3, v4⟩ := zzf5 BK0.out
        rcases field_or _ _ _ _ _ _ A3 with ⟨rfl, f3, E3, rfl⟩ | ⟨rfl, rfl⟩ <;> clear A3
        ·go_upto_region 18 with ((go_at_call 78; (with_reducible refine (word_Field.calls k1 a0 20 5 _ _ E3).mono ?_); rintro e w10 ⟨rfl, ⟨nd, rfl⟩⟩))
         clear x0 x1 x2 x3 x4 v0 v1 v2 v3 v4 y0 y1 y2 y3 y4 z0 z1 z2 z3 z4
         refine wp_abs (fun W => W.heap[gb6]? = some (.cells #[.int .i64 j, .int .i64 (wrap64 f1), .int .i64 (wrap64 f2), .int .i64 (wrap64 f3), .int .i64 m] 23 (0, 0)) ∧ W.heap[gb2]? = some (.cells #[.int .i64 0, .int .i64 0, .int .i64 0, .int .i64 0, .int .i64 0] 23 (0, 0)) ∧ Below w.heap.size w W) ⟨by refine zzk ?_; refine blk_put (cs := #[.int .i64 j, .int .i64 (wrap64 f1), .int .i64 (wrap64 f2), .int .i64 0, .int .i64 m]) ?_ 3 _ rfl; refine zzk ?_; exact BK6.out, by refine zzk ?_; refine blk_far ?_ NE2.out _; refine zzk ?_; exact BK0.out, zzg⟩ ?_
         clear BK6 BK0 HB E3
         rintro W ⟨BK6, BK0, HB⟩; replace BK6 := zz BK6; replace BK0 := zz BK0; replace HB := zz HB; obtain ⟨z0, z1, z2, z3, z4⟩ := zzc5 BK6.out (.int .i64 j) (.int .i64 ((wrap64 f1))) (.int .i64 ((wrap64 f2))) (.int .i64 ((wrap64 f3))) (.int .i64 m); obtain ⟨y0, y1, y2, y3, y4⟩ := zzf5 BK6.out; obtain ⟨x0, x1, x2, x3, x4⟩ := zzc5 BK0.out (.int .i64 0) (.int .i64 0) (.int .i64 0) (.int .i64 0) (.int .i64 0); obtain ⟨v0, v1, v2, v3, v4⟩ := zzf5 BK0.out
         go_wp2_with fail
         refine bodyPost_ret (results_ct rfl _ _ gb2 23 #[.int .i64 j, .int .i64 (wrap64 f1), .int .i64 (wrap64 f2), .int .i64 (wrap64 f3), .int .i64 m] (0, 0) _ rfl (by refine zzk ?_; refine blk_put (cs := #[.int .i64 j, .int .i64 (wrap64 f1), .int .i64 (wrap64 f2), .int .i64 (wrap64 f3), .int .i64 0]) ?_ 4 _ rfl; refine blk_put (cs := #[.int .i64 j, .int .i64 (wrap64 f1), .int .i64 (wrap64 f2), .int .i64 0, .int .i64 0]) ?_ 3 _ rfl; refine blk_put (cs := #[.int .i64 j, .int .i64 (wrap64 f1), .int .i64 0, .int .i64 0, .int .i64 0]) ?_ 2 _ rfl; refine blk_put (cs := #[.int .i64 j, .int .i64 0, .int .i64 0, .int .i64 0, .int .i64 0]) ?_ 1 _ rfl; refine blk_put (cs := #[.int .i64 0, .int .i64 0, .int .i64 0, .int .i64 0, .int .i64 0]) ?_ 0 _ rfl; exact BK0.out) Try.underlying23 rfl (by kernel_rfl)) rfl ?_
         exact ⟨rfl, zzg⟩
        ·go_upto_region 18 with fail
         clear x0 x1 x2 x3 x4 v0 v1 v2 v3 v4 y0 y1 y2 y3 y4 z0 z1 z2 z3 z4
         refine wp_abs (fun W => W.heap[gb6]? = some (.cells #[.int .i64 j, .int .i64 (wrap64 f1), .int .i64 (wrap64 f2), .int .i64 0, .int .i64 m] 23 (0, 0)) ∧ W.heap[gb2]? = some (.cells #[.int .i64 0, .int .i64 0, .int .i64 0, .int .i64 0, .int .i64 0] 23 (0, 0)) ∧ Below w.heap.size w W) ⟨by refine zzk ?_; exact BK6.out, by refine zzk ?_; exact BK0.out, zzg⟩ ?_
         clear BK6 BK0 HB
         rintro W ⟨BK6, BK0, HB⟩; replace BK6 := zz BK6; replace BK0 := zz BK0; replace HB := zz HB; obtain ⟨z0, z1, z2, z3, z4⟩ := zzc5 BK6.out (.int .i64 j) (.int .i64 ((wrap64 f1))) (.int .i64 ((wrap64 f2))) (.int .i64 0) (.int .i64 m); obtain ⟨y0, y1, y2, y3, y4⟩ := zzf5 BK6.out; obtain ⟨x0, x1, x2, x3, x4⟩ := zzc5 BK0.out (.int .i64 0) (.int .i64 0) (.int .i64 0) (.int .i64 0) (.int .i64 0); obtain ⟨v0, v1, v2, v3, v4⟩ := zzf5 BK0.out
         go_wp2_with fail
         refine bodyPost_ret (results_ct rfl _ _ gb2 23 #[.int .i64 j, .int .i64 (wrap64 f1), .int .i64 (wrap64 f2), .int .i64 0, .int .i64 m] (0, 0) _ rfl (by refine zzk ?_; refine blk_put (cs := #[.int .i64 j, .int .i64 (wrap64 f1), .int .i64 (wrap64 f2), .int .i64 0, .int .i64 0]) ?_ 4 _ rfl; refine blk_put (cs := #[.int .i64 j, .int .i64 (wrap64 f1), .int .i64 (wrap64 f2), .int .i64 0, .int .i64 0]) ?_ 3 _ rfl; refine blk_put (cs := #[.int .i64 j, .int .i64 (wrap64 f1), .int .i64 0, .int .i64 0, .int .i64 0]) ?_ 2 _ rfl; refine blk_put (cs := #[.int .i64 j, .int .i64 0, .int .i64 0, .int .i64 0, .int .i64 0]) ?_ 1 _ rfl; refine blk_put (cs := #[.int .i64 0, .int .i64 0, .int .i64 0, .int .i64 0, .int .i64 0]) ?_ 0 _ rfl; exact BK0.out) Try.underlying23 rfl (by kernel_rfl)) rfl ?_
         exact ⟨rfl, zzg⟩
       ·go_upto_region 16 with fail
        clear x0 x1 x2 x3 x4 v0 v1 v2 v3 v4 y0 y1 y2 y3 y4 z0 z1 z2 z3 z4
        refine wp_abs (fun W => W.heap[gb6]? = some (.cells #[.int .i64 j, .int .i64 (wrap64 f1), .int .i64 0, .int .i64 0, .int .i64 m] 23 (0, 0)) ∧ W.heap[gb2]? = some (.cells #[.int .i64 0, .int .i64 0, .int .i64 0, .int .i64 0, .int .i64 0] 23 (0, 0)) ∧ Below w.heap.size w W) ⟨by refine zzk ?_; exact BK6.out, by refine zzk ?_; exact BK0.out, zzg⟩ ?_
        clear BK6 BK0 HB
        rintro W ⟨BK6, BK0, HB⟩; replace BK6 := zz BK6; replace BK0 := zz BK0; replace HB := zz HB; obtain ⟨z0, z1, z2, z3, z4⟩ := zzc5 BK6.out (.int .i64 j) (.int .i64 ((wrap64 f1))) (.int .i64 0) (.int .i64 0) (.int .i64 m); obtain ⟨y0, y1, y2, y3, y4⟩ := zzf5 BK6.out; obtain ⟨x0, x1, x2, x3, x4⟩ := zzc5 BK0.out (.int .i64 0) (.int .i64 0) (.int .i64 0) (.int .i64 0) (.int .i64 0); obtain ⟨v0, v1, v2, v3, v4⟩ := zzf5 BK0.out
        rcases field_or _ _ _ _ _ _ A3 with ⟨rfl, f3, E3, rfl⟩ | ⟨rfl, rfl⟩ <;> clear A3
        ·go_upto_region 18 with ((go_at_call 78; (with_reducible refine (word_Field.calls k1 a0 20 5 _ _ E3).mono ?_); rintro e w10 ⟨rfl, ⟨nd, rfl⟩⟩))
         clear x0 x1 x2 x3 x4 v0 v1 v2 v3 v4 y0 y1 y2 y3 y4 z0 z1 z2 z3 z4
         refine wp_abs (fun W => W.heap[gb6]? = some (.cells #[.int .i64 j, .int .i64 (wrap64 f1), .int .i64 0, .int .i64 (wrap64 f3), .int .i64 m] 23 (0, 0)) ∧ W.heap[gb2]? = some (.cells #[.int .i64 0, .int .i64 0, .int .i64 0, .int .i64 0, .int .i64 0] 23 (0, 0)) ∧ Below w.heap.size w W) ⟨by refine zzk ?_; refine blk_put (cs := #[.int .i64 j, .int .i64 (wrap64 f1), .int .i64 0, .int .i64 0, .int .i64 m]) ?_ 3 _ rfl; refine zzk ?_; exact BK6.out, by refine zzk ?_; refine blk_far ?_ NE2.out _; refine zzk ?_; exact BK0.out, zzg⟩ ?_
         clear BK6 BK0 HB E3
         rintro W ⟨BK6, BK0, HB⟩; replace BK6 := zz BK6; replace BK0 := zz BK0; replace HB := zz HB; obtain ⟨z0, z1, z2, z3, z4⟩ := zzc5 BK6.out (.int .i64 j) (.int .i64 ((wrap64 f1))) (.int .i64 0) (.int .i64 ((wrap64 f3))) (.int .i64 m); obtain ⟨y0, y1, y2, y3, y4⟩ := zzf5 BK6.out; obtain ⟨x0, x1, x2, x3, x4⟩ := zzc5 BK0.out (.int .i64 0) (.int .i64 0) (.int .i64 0) (.int .i64 0) (.int .i64 0); obtain ⟨v0, v1, v2, v3, v4⟩ := zzf5 BK0.out
         go_wp2_with fail
         refine bodyPost_ret (results_ct rfl _ _ gb2 23 #[.int .i64 j, .int .i64 (wrap64 f1), .int .i64 0, .int .i64 (wrap64 f3), .int .i64 m] (0, 0) _ rfl (by refine zzk ?_; refine blk_put (cs := #[.int .i64 j, .int .i64 (wrap64 f1), .int .i64 0, .int .i64 (wrap64 f3), .int .i64 0]) ?_ 4 _ rfl; refine blk_put (cs := #[.int .i64 j, .int .i64 (wrap64 f1), .int .i64 0, .int .i64 0, .int .i64 0]) ?_ 3 _ rfl; refine blk_put (cs := #[.int .i64 j, .int .i64 (wrap64 f1), .int .i64 0, .int .i64 0, .int .i64 0]) ?_ 2 _ rfl; refine blk_put (cs := #[.int .i64 j, .int .i64 0, .int .i64 0, .int .i64 0, .int .i64 0]) ?_ 1 _ rfl; refine blk_put (cs := #[.int .i64 0, .int .i64 0, .int .i64 0, .int .i64 0, .int .i64 0]) ?_ 0 _ rfl; exact BK0.out) Try.underlying23 rfl (by kernel_rfl)) rfl ?_
         exact ⟨rfl, zzg⟩
        ·go_upto_region 18 with fail
         clear x0 x1 x2 x3 x4 v0 v1 v2 v3 v4 y0 y1 y2 y3 y4 z0 z1 z2 z3 z4
         refine wp_abs (fun W => W.heap[gb6]? = some (.cells #[.int .i64 j, .int .i64 (wrap64 f1), .int .i64 0, .int .i64 0, .int .i64 m] 23 (0, 0)) ∧ W.heap[gb2]? = some (.cells #[.int .i64 0, .int .i64 0, .int .i64 0, .int .i64 0, .int .i64 0] 23 (0, 0)) ∧ Below w.heap.size w W) ⟨by refine zzk ?_; exact BK6.out, by refine zzk ?_; exact BK0.out, zzg⟩ ?_
         clear BK6 BK0 HB
         rintro W ⟨BK6, BK0, HB⟩; replace BK6 := zz BK6; replace BK0 := zz BK0; replace HB := zz HB; obtain ⟨z0, z1, z2, z3, z4⟩ := zzc5 BK6.out (.int .i64 j) (.int .i64 ((wrap64 f1))) (.int .i64 0) (.int .i64 0) (.int .i64 m); obtain ⟨y0, y1, y2, y3, y4⟩ := zzf5 BK6.out; obtain ⟨x0, x1, x2, x3, x4⟩ := zzc5 BK0.out (.int .i64 0) (.int .i64 0) (.int .i64 0) (.int .i64 0) (.int .i64 0); obtain ⟨v0, v1, v2, v3, v4⟩ := zzf5 BK0.out
         go_wp2_with fail
         refine bodyPost_ret (results_ct rfl _ _ gb2 23 #[.int .i64 j, .int .i64 (wrap64 f1), .int .i64 0, .int .i64 0, .int .i64 m] (0, 0) _ rfl (by refine zzk ?_; refine blk_put (cs := #[.int .i64 j, .int .i64 (wrap64 f1), .int .i64 0, .int .i64 0, .int .i64 0]) ?_ 4 _ rfl; refine blk_put (cs := #[.int .i64 j, .int .i64 (wrap64 f1), .int .i64 0, .int .i64 0, .int .i64 0]) ?_ 3 _ rfl; refine blk_put (cs := #[.int .i64 j, .int .i64 (wrap64 f1), .int .i64 0, .int .i64 0, .int .i64 0]) ?_ 2 _ rfl; refine blk_put (cs := #[.int .i64 j, .int .i64 0, .int .i64 0, .int .i64 0, .int .i64 0]) ?_ 1 _ rfl; refine blk_put (cs := #[.int .i64 0, .int .i64 0, .int .i64 0, .int .i64 0, .int .i64 0]) ?_ 0 _ rfl; exact BK0.out) Try.underlying23 rfl (by kernel_rfl)) rfl ?_
         exact ⟨rfl, zzg⟩
      ·go_upto_region 14 with fail
       clear x0 x1 x2 x3 x4 v0 v1 v2 v3 v4 y0 y1 y2 y3 y4 z0 z1 z2 z3 z4
       refine wp_abs (fun W => W.heap[gb6]? = some (.cells #[.int .i64 j, .int .i64 0, .int .i64 0, .int .i64 0, .int .i64 m] 23 (0, 0)) ∧ W.heap[gb2]? = some (.cells #[.int .i64 0, .int .i64 0, .int .i64 0, .int .i64 0, .int .i64 0] 23 (0, 0)) ∧ Below w.heap.size w W) ⟨by refine zzk ?_; exact BK6.out, by refine zzk ?_; exact BK0.out, zzg⟩ ?_
       clear BK6 BK0 HB
       rintro W ⟨BK6, BK0, HB⟩; replace BK6 := zz BK6; replace BK0 := zz BK0; replace HB := zz HB; obtain ⟨z0, z1, z2, z3, z4⟩ := zzc5 BK6.out (.int .i64 j) (.int .i64 0) (.int .i64 0) (.int .i64 0) (.int .i64 m); obtain ⟨y0, y1, y2, y3, y4⟩ := zzf5 BK6.out; obtain ⟨x0, x1, x2, x3, x4⟩ := zzc5 BK0.out (.int .i64 0) (.int .i64 0) (.int .i64 0) (.int .i64 0) (.int .i64 0); obtain ⟨v0, v1, v2, v3, v4⟩ := zzf5 BK0.out
       rcases field_or _ _ _ _ _ _ A2 with ⟨rfl, f2, E2, rfl⟩ | ⟨rfl, rfl⟩ <;> clear A2
       ·go_upto_region 16 with ((go_at_call 78; (with_reducible refine (word_Field.calls k1 a0 15 5 _ _ E2).mono ?_); rintro e w10 ⟨rfl, ⟨nd, rfl⟩⟩))
        clear x0 x1 x2 x3 x4 v0 v1 v2 v3 v4 y0 y1 y2 y3 y4 z0 z1 z2 z3 z4
        refine wp_abs (fun W => W.heap[gb6]? = some (.cells #[.int .i64 j, .int .i64 0, .int .i64 (wrap64 f2), .int .i64 0, .int .i64 m] 23 (0, 0)) ∧ W.heap[gb2]? = some (.cells #[.int .i64 0, .int .i64 0, .int .i64 0, .int .i64 0, .int .i64 0] 23 (0, 0)) ∧ Below w.heap.size w W) ⟨by refine zzk ?_; refine blk_put (cs := #[.int .i64 j, .int .i64 0, .int .i64 0, .int .i64 0, .int .i64 m]) ?_ 2 _ rfl; refine zzk ?_; exact BK6.out, by refine zzk ?_; refine blk_far ?_ NE2.out _; refine zzk ?_; exact BK0.out, zzg⟩ ?_
        clear BK6 BK0 HB E2
        rintro W ⟨BK6, BK0, HB⟩; replace BK6 := zz BK6; replace BK0 := zz BK0; replace HB := zz HB; obtain ⟨z0, z1, z2, z3, z4⟩ := zzc5 BK6.out (.int .i64 j) (.int .i64 0) (.int .i64 ((wrap64 f2))) (.int .i64 0) (.int .i64 m); obtain ⟨y0, y1, y2, y3, y4⟩ := zzf5 BK6.out; obtain ⟨x0, x1, x2, x3, x4⟩ := zzc5 BK0.out (.int .i64 0) (.int .i64 0) (.int .i64 0) (.int .i64 0) (.int .i64 0); obtain ⟨v0, v1, v2, v3, v4⟩ := zzf5 BK0.out
        rcases field_or _ _ _ _ _ _ A3 with ⟨rfl, f3, E3, rfl⟩ | ⟨rfl, rfl⟩ <;> clear A3
        ·go_upto_region 18 with ((go_at_call 78; (with_reducible refine (word_Field.calls k1 a0 20 5 _ _ E3).mono ?_); rintro e w10 ⟨rfl, ⟨nd, rfl⟩⟩))
         clear x0 x1 x2 x3 x4 v0 v1 v2 v3 v4 y0 y1 y2 y3 y4 z0 z1 z2 z3 z4
         refine wp_abs (fun W => W.heap[gb6]? = some (.cells #[.int .i64 j, .int .i64 0, .int .i64 (wrap64 f2), .int .i64 (wrap64 f3), .int .i64 m] 23 (0, 0)) ∧ W.heap[gb2]? = some (.cells #[.int .i64 0, .int .i64 0, .int .i64 0, .int .i64 0, .int .i64 0] 23 (0, 0)) ∧ Below w.heap.size w W) ⟨by refine zzk ?_; refine blk_put (cs := #[.int .i64 j, .int .i64 0, .int .i64 (wrap64 f2), .int .i64 0, .int .i64 m]) ?_ 3 _ rfl; refine zzk ?_; exact BK6.out, by refine zzk ?_; refine blk_far ?_ NE2.out _; refine zzk ?_; exact BK0.out, zzg⟩ ?_
         clear BK6 BK0 HB E3
         rintro W ⟨BK6, BK0, HB⟩; replace BK6 := zz BK6; replace BK0 := zz BK0; replace HB := zz HB; obtain ⟨z0, z1, z2, z3, z4⟩ := zzc5 BK6.out (.int .i64 j) (.int .i64 0) (.int .i64 ((wrap64 f2))) (.int .i64 ((wrap64 f3))) (.int .i64 m); obtain ⟨y0, y1, y2, y3, y4⟩ := zzf5 BK6.out; obtain ⟨x0, x1, x2, x3, x4⟩ := zzc5 BK0.out (.int .i64 0) (.int .i64 0) (.int .i64 0) (.int .i64 0) (.int .i64 0); obtain ⟨v0, v1, v2, v3, v4⟩ := zzf5 BK0.out
         go_wp2_with fail
         refine bodyPost_ret (results_ct rfl _ _ gb2 23 #[.int .i64 j, .int .i64 0, .int .i64 (wrap64 f2), .int .i64 (wrap64 f3), .int .i64 m] (0, 0) _ rfl (by refine zzk ?_; refine blk_put (cs := #[.int .i64 j, .int .i64 0, .int .i64 (wrap64 f2), .int .i64 (wrap64 f3), .int .i64 0]) ?_ 4 _ rfl; refine blk_put (cs := #[.int .i64 j, .int .i64 0, .int .i64 (wrap64 f2), .int .i64 0, .int .i64 0]) ?_ 3 _ rfl; refine blk_put (cs := #[.int .i64 j, .int .i64 0, .int .i64 0, .int .i64 0, .int .i64 0]) ?_ 2 _ rfl; refine blk_put (cs := #[.int .i64 j, .int .i64 0, .int .i64 0, .int .i64 0, .int .i64 0]) ?_ 1 _ rfl; refine blk_put (cs := #[.int .i64 0, .int .i64 0, .int .i64 0, .int .i64 0, .int .i64 0]) ?_ 0 _ rfl; exact BK0.out) Try.underlying23 rfl (by kernel_rfl)) rfl ?_
         exact ⟨rfl, zzg⟩
        ·go_upto_region 18 with fail
         clear x0 x1 x2 x3 x4 v0 v1 v2 v3 v4 y0 y1 y2 y3 y4 z0 z1 z2 z3 z4
         refine wp_abs (fun W => W.heap[gb6]? = some (.cells #[.int .i64 j, .int .i64 0, .int .i64 (wrap64 f2), .int .i64 0, .int .i64 m] 23 (0, 0)) ∧ W.heap[gb2]? = some (.cells #[.int .i64 0, .int .i64 0, .int .i64 0, .int .i64 0, .int .i64 0] 23 (0, 0)) ∧ Below w.heap.size w W) ⟨by refine zzk ?_; exact BK6.out, by refine zzk ?_; exact BK0.out, zzg⟩ ?_
         clear BK6 BK0 HB
         rintro W ⟨BK6, BK0, HB⟩; replace BK6 := zz BK6; replace BK0 := zz BK0; replace HB := zz HB; obtain ⟨z0, z1, z2, z3, z4⟩ := zzc5 BK6.out (.int .i64 j) (.int .i64 0) (.int .i64 ((wrap64 f2))) (.int .i64 0) (.int .i64 m); obtain ⟨y0, y1, y2, y3, y4⟩ := zzf5 BK6.out; obtain ⟨x0, x1, x2, x3, x4⟩ := zzc5 BK0.out (.int .i64 0) (.int .i64 0) (.int .i64 0) (.int .i64 0) (.int .i64 0); obtain ⟨v0, v1, v2, v3, v4⟩ := zzf5 BK0.out
         go_wp2_with fail
         refine bodyPost_ret (results_ct rfl _ _ gb2 23 #[.int .i64 j, .int .i64 0, .int .i64 (wrap64 f2), .int .i64 0, .int .i64 m] (0, 0) _ rfl (by refine zzk ?_; refine blk_put (cs := #[.int .i64 j, .int .i64 0, .int .i64 (wrap64 f2), .int .i64 0, .int .i64 0]) ?_ 4 _ rfl; refine blk_put (cs := #[.int .i64 j, .int .i64 0, .int .i64 (wrap64 f2), .int .i64 0, .int .i64 0]) ?_ 3 _ rfl; refine blk_put (cs := #[.int .i64 j, .int .i64 0, .int .i64 0, .int .i64 0, .int .i64 0]) ?_ 2 _ rfl; refine blk_put (cs := #[.int .i64 j, .int .i64 0, .int .i64 0, .int .i64 0, .int .i64 0]) ?_ 1 _ rfl; refine blk_put (cs := #[.int .i64 0, .int .i64 0, .int .i64 0, .int .i64 0, .int .i64 0]) ?_ 0 _ rfl; exact BK0.out) Try.underlying23 rfl (by kernel_rfl)) rfl ?_
         exact ⟨rfl, zzg⟩
       ·go_upto_region 16 with fail
        clear x0 x1 x2 x3 x4 v0 v1 v2 v3 v4 y0 y1 y2 y3 y4 z0 z1 z2 z3 z4
        refine wp_abs (fun W => W.heap[gb6]? = some (.cells #[.int .i64 j, .int .i64 0, .int .i64 0, .int .i64 0, .int .i64 m] 23 (0, 0)) ∧ W.heap[gb2]? = some (.cells #[.int .i64 0, .int .i64 0, .int .i64 0, .int .i64 0, .int .i64 0] 23 (0, 0)) ∧ Below w.heap.size w W) ⟨by refine zzk ?_; exact BK6.out, by refine zzk ?_; exact BK0.out, zzg⟩ ?_
        clear BK6 BK0 HB
        rintro W ⟨BK6, BK0, HB⟩; replace BK6 := zz BK6; replace BK0 := zz BK0; replace HB := zz HB; obtain ⟨z0, z1, z2, z3, z4⟩ := zzc5 BK6.out (.int .i64 j) (.int .i64 0) (.int .i64 0) (.int .i64 0) (.int .i64 m); obtain ⟨y0, y1, y2, y3, y4⟩ := zzf5 BK6.out; obtain ⟨x0, x1, x2, x3, x4⟩ := zzc5 BK0.out (.int .i64 0) (.int .i64 0) (.int .i64 0) (.int .i64 0) (.int .i64 0); obtain ⟨v0, v1, v2, v3, v4⟩ := zzf5 BK0.out
        rcases field_or _ _ _ _ _ _ A3 with ⟨rfl, f3, E3, rfl⟩ | ⟨rfl, rfl⟩ <;> clear A3
        ·go_upto_region 18 with ((go_at_call 78; (with_reducible refine (word_Field.calls k1 a0 20 5 _ _ E3).mono ?_); rintro e w10 ⟨rfl, ⟨nd, rfl⟩⟩))
         clear x0 x1 x2 x3 x4 v0 v1 v2 v3 v4 y0 y1 y2 y3 y4 z0 z1 z2 z3 z4
         refine wp_abs (fun W => W.heap[gb6]? = some (.cells #[.int .i64 j, .int .i64 0, .int .i64 0, .int .i64 (wrap64 f3), .int .i64 m] 23 (0, 0)) ∧ W.heap[gb2]? = some (.cells #[.int .i64 0, .int .i64 0, .int .i64 0, .int .i64 0, .int .i64 0] 23 (0, 0)) ∧ Below w.heap.size w W) ⟨by refine zzk ?_; refine blk_put (cs := #[.int .i64 j, .int .i64 0, .int .i64 0, .int .i64 0, .int .i64 m]) ?_ 3 _ rfl; refine zzk ?_; exact BK6.out, by refine zzk ?_; refine blk_far ?_ NE2.out _; refine zzk ?_; exact BK0.out, zzg⟩ ?_
         clear BK6 BK0 HB E3
         rintro W ⟨BK6, BK0, HB⟩; replace BK6 := zz BK6; replace BK0 := zz BK0; replace HB := zz HB; obtain ⟨z0, z1, z2, z3, z4⟩ := zzc5 BK6.out (.int .i64 j) (.int .i64 0) (.int .i64 0) (.int .i64 ((wrap64 f3))) (.int .i64 m); obtain ⟨y0, y1, y2, y3, y4⟩ := zzf5 BK6.out; obtain ⟨x0, x1, x2, x3, x4⟩ := zzc5 BK0.out (.int .i64 0) (.int .i64 0) (.int .i64 0) (.int .i64 0) (.int .i64 0); obtain ⟨v0, v1, v2, v3, v4⟩ := zzf5 BK0.out
         go_wp2_with fail
         refine bodyPost_ret (results_ct rfl _ _ gb2 23 #[.int .i64 j, .int .i64 0, .int .i64 0, .int .i64 (wrap64 f3), .int .i64 m] (0, 0) _ rfl (by refine zzk ?_; refine blk_put (cs := #[.int .i64 j, .int .i64 0, .int .i64 0, .int .i64 (wrap64 f3), .int .i64 0]) ?_ 4 _ rfl; refine blk_put (cs := #[.int .i64 j, .int .i64 0, .int .i64 0, .int .i64 0, .int .i64 0]) ?_ 3 _ rfl; refine blk_put (cs := #[.int .i64 j, .int .i64 0, .int .i64 0, .int .i64 0, .int .i64 0]) ?_ 2 _ rfl; refine blk_put (cs := #[.int .i64 j, .int .i64 0, .int .i64 0, .int .i64 0, .int .i64 0]) ?_ 1 _ rfl; refine blk_put (cs := #[.int .i64 0, .int .i64 0, .int .i64 0, .int .i64 0, .int .i64 0]) ?_ 0 _ rfl; exact BK0.out) Try.underlying23 rfl (by kernel_rfl)) rfl ?_
         exact ⟨rfl, zzg⟩
        ·go_upto_region 18 with fail
         clear x0 x1 x2 x3 x4 v0 v1 v2 v3 v4 y0 y1 y2 y3 y4 z0 z1 z2 z3 z4
         refine wp_abs (fun W => W.heap[gb6]? = some (.cells #[.int .i64 j, .int .i64 0, .int .i64 0, .int .i64 0, .int .i64 m] 23 (0, 0)) ∧ W.heap[gb2]? = some (.cells #[.int .i64 0, .int .i64 0, .int .i64 0, .int .i64 0, .int .i64 0] 23 (0, 0)) ∧ Below w.heap.size w W) ⟨by refine zzk ?_; exact BK6.out, by refine zzk ?_; exact BK0.out, zzg⟩ ?_
         clear BK6 BK0 HB
         rintro W ⟨BK6, BK0, HB⟩; replace BK6 := zz BK6; replace BK0 := zz BK0; replace HB := zz HB; obtain ⟨z0, z1, z2, z3, z4⟩ := zzc5 BK6.out (.int .i64 j) (.int .i64 0) (.int .i64 0) (.int .i64 0) (.int .i64 m); obtain ⟨y0, y1, y2, y3, y4⟩ := zzf5 BK6.out; obtain ⟨x0, x1, x2, x3, x4⟩ := zzc5 BK0.out (.int .i64 0) (.int .i64 0) (.int .i64 0) (.int .i64 0) (.int .i64 0); obtain ⟨v0, v1, v2, v3, v4⟩ := zzf5 BK0.out
         go_wp2_with fail
         refine bodyPost_ret (results_ct rfl _ _ gb2 23 #[.int .i64 j, .int .i64 0, .int .i64 0, .int .i64 0, .int .i64 m] (0, 0) _ rfl (by refine zzk ?_; refine blk_put (cs := #[.int .i64 j, .int .i64 0, .int .i64 0, .int .i64 0, .int .i64 0]) ?_ 4 _ rfl; refine blk_put (cs := #[.int .i64 j, .int .i64 0, .int .i64 0, .int .i64 0, .int .i64 0]) ?_ 3 _ rfl; refine blk_put (cs := #[.int .i64 j, .int .i64 0, .int .i64 0, .int .i64 0, .int .i64 0]) ?_ 2 _ rfl; refine blk_put (cs := #[.int .i64 j, .int .i64 0, .int .i64 0, .int .i64 0, .int .i64 0]) ?_ 1 _ rfl; refine blk_put (cs := #[.int .i64 0, .int .i64 0, .int .i64 0, .int .i64 0, .int .i64 0]) ?_ 0 _ rfl; exact BK0.out) Try.underlying23 rfl (by kernel_rfl)) rfl ?_
         exact ⟨rfl, zzg⟩
    ·rw [if_neg c4] at H
     cases H
   ·rw [if_neg c3] at H
    have c3b0 : decide (i < 47) = false := decide_eq_false c3
    clear c3
    simp only [Option.some.injEq, Prod.mk.injEq] at H
    obtain ⟨rfl, rfl, rfl, rfl, rfl, rfl⟩ := H
    obtain ⟨x0, x1, x2, x3, x4⟩ := zzc5 BK0.out (.int .i64 0) (.int .i64 0) (.int .i64 0) (.int .i64 0) (.int .i64 0); obtain ⟨v0, v1, v2, v3, v4⟩ := zzf5 BK0.out
    go_wp2_with fail
    refine bodyPost_ret (results_ct rfl _ _ gb2 23 #[.int .i64 0, .int .i64 0, .int .i64 0, .int .i64 0, .int .i64 0] (0, 0) _ rfl (by refine blk_put (cs := #[.int .i64 0, .int .i64 0, .int .i64 0, .int .i64 0, .int .i64 0]) ?_ 4 _ rfl; refine blk_put (cs := #[.int .i64 0, .int .i64 0, .int .i64 0, .int .i64 0, .int .i64 0]) ?_ 3 _ rfl; refine blk_put (cs := #[.int .i64 0, .int .i64 0, .int .i64 0, .int .i64 0, .int .i64 0]) ?_ 2 _ rfl; refine blk_put (cs := #[.int .i64 0, .int .i64 0, .int .i64 0, .int .i64 0, .int .i64 0]) ?_ 1 _ rfl; refine blk_put (cs := #[.int .i64 0, .int .i64 0, .int .i64 0, .int .i64 0, .int .i64 0]) ?_ 0 _ rfl; exact BK0.out) Try.underlying23 rfl (by kernel_rfl)) rfl ?_
    exact ⟨rfl, by repeat (first | exact HB.out | refine below_set ?_ GE0.out)⟩
def r02_forms.f  : Option (ByteArray) := some (⟨#[85, 85, 74, 73, 66, 66, 66, 66, 66, 66, 73, 73, 73, 73, 73, 83, 83, 83, 73, 73, 73, 73, 73, 73, 72, 72, 72, 82, 82, 82, 82, 82, 82, 82, 82, 82, 82, 82, 82, 82, 82, 82, 82, 82, 82, 69, 69]⟩ : ByteArray)
set_option maxHeartbeats 8000000 in
set_option maxRecDepth 100000 in
theorem r02_forms.calls  (r : ByteArray) (w : World) (h : r02_forms.f  = some r) :
  Calls Try.prog 55 #[] w fun e w' => e = .returned (.string r) ∧ Drawn0 w w' := by
 have H : (some (⟨#[85, 85, 74, 73, 66, 66, 66, 66, 66, 66, 73, 73, 73, 73, 73, 83, 83, 83, 73, 73, 73, 73, 73, 73, 72, 72, 72, 82, 82, 82, 82, 82, 82, 82, 82, 82, 82, 82, 82, 82, 82, 82, 82, 82, 82, 69, 69]⟩ : ByteArray)) = some r := h
 clear h
 obtain rfl := Option.some.inj H
 go_enter Try.func55, Try.ntmps55
 go_wp2
 go_ret
 exact ⟨zzh, zzd⟩
end Go.Proofs.Ytekenddkoahjgaa.Q
