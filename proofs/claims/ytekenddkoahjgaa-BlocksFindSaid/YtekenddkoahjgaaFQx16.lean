import Derived.Test.YtekenddkoahjgaaFZc
import Derived.Test.YtekenddkoahjgaaFQx3
namespace Go.Proofs.Ytekenddkoahjgaa.Q
open Go.RowKit Go.Proofs.YtekenddkoahjgaaW.PrintWords Go.Proofs.YtekenddkoahjgaaW.PrintLast Go.Proofs.YtekenddkoahjgaaW.PrintMore
attribute [local go_sem] max2_int min2_int max_two min_two max_three min_three max_four min_four
attribute [local go_sem] imax_u32 imax_u8 isg_u32 isg_u8
set_option linter.unusedVariables false
set_option linter.unusedSimpArgs false
def whetstoneref02_ops.f  : Option (List Int) := some (([55, 23, 111, 103, 99, 99, 99, 99, 99, 99, 3, 3, 3, 3, 3, 35, 35, 35, 19, 19, 19, 19, 19, 19, 19, 19, 19, 51, 51, 51, 51, 51, 51, 51, 51, 51, 51, 51, 51, 51, 51, 51, 51, 51, 51, 115, 115] : List Int))
set_option maxHeartbeats 8000000 in
set_option maxRecDepth 100000 in
theorem whetstoneref02_ops.calls  (r : List Int) (w : World) (h : whetstoneref02_ops.f  = some r) :
  Calls Try.prog 82 #[] w fun e w' => ∃ v0_ : Value, e = .returned (v0_) ∧ Kd.R (Kd.int .u32) 24 w' w.heap.size (fun _ => True) v0_ r ∧ Below w.heap.size w w' := by
 have HB := Aside0.mk (Below.refl w.heap.size w)
 have H : (some (([55, 23, 111, 103, 99, 99, 99, 99, 99, 99, 3, 3, 3, 3, 3, 35, 35, 35, 19, 19, 19, 19, 19, 19, 19, 19, 19, 51, 51, 51, 51, 51, 51, 51, 51, 51, 51, 51, 51, 51, 51, 51, 51, 51, 51, 115, 115] : List Int))) = some r := h
 clear h
 obtain ⟨y176, hy176⟩ : ∃ y_ : List Int, y_ = (([55, 23, 111, 103, 99, 99, 99, 99, 99, 99, 3, 3, 3, 3, 3, 35, 35, 35, 19, 19, 19, 19, 19, 19, 19, 19, 19, 51, 51, 51, 51, 51, 51, 51, 51, 51, 51, 51, 51, 51, 51, 51, 51, 51, 51, 115, 115] : List Int)) := ⟨_, rfl⟩
 replace H : (some y176) = some r := by first | (rw [hy176]; with_reducible exact H) | (have H2_ := (Option.bind_some _ _).symm.trans H; rw [hy176]; with_reducible exact H2_) | (have H2_ := (Option.bind_some _ _).symm.trans H; with_reducible exact H2_) | with_reducible exact H | (rw [hy176]; exact H) | exact H
 have Ny176 := Aside0.mk hy176
 clear hy176
 obtain rfl := Option.some.inj H
 go_enter Try.func82, Try.ntmps82
 go_wp2_with (first | ((with_reducible refine gate_dst (N := 1) rfl ?_); refine Kd.R_lit (Kd.int .u32) _ 24 ?hg (N := 1) ?hd (xs := ([55, 23, 111, 103, 99, 99, 99, 99, 99, 99, 3, 3, 3, 3, 3, 35, 35, 35, 19, 19, 19, 19, 19, 19, 19, 19, 19, 51, 51, 51, 51, 51, 51, 51, 51, 51, 51, 51, 51, 51, 51, 51, 51, 51, 51, 115, 115] : List Int)) (inner := [.int .u32 55, .int .u32 23, .int .u32 111, .int .u32 103, .int .u32 99, .int .u32 99, .int .u32 99, .int .u32 99, .int .u32 99, .int .u32 99, .int .u32 3, .int .u32 3, .int .u32 3, .int .u32 3, .int .u32 3, .int .u32 35, .int .u32 35, .int .u32 35, .int .u32 19, .int .u32 19, .int .u32 19, .int .u32 19, .int .u32 19, .int .u32 19, .int .u32 19, .int .u32 19, .int .u32 19, .int .u32 51, .int .u32 51, .int .u32 51, .int .u32 51, .int .u32 51, .int .u32 51, .int .u32 51, .int .u32 51, .int .u32 51, .int .u32 51, .int .u32 51, .int .u32 51, .int .u32 51, .int .u32 51, .int .u32 51, .int .u32 51, .int .u32 51, .int .u32 51, .int .u32 115, .int .u32 115]) (ok := fun _ => True) (okp := fun _ => True) ?hr ?hp (fun _ hk => hk) trivial (Below.refl _ _) (Nat.le_refl _) (by simp) ?_; (case hd => rfl); (case hg => rfl); (case hr => first | (go_simp; done) | (go_simp; rfl)); (case hp => exact (zzu (zzu (zzu (zzu (zzu (zzu (zzu (zzu (zzu (zzu (zzu (zzu (zzu (zzu (zzu (zzu (zzu (zzu (zzu (zzu (zzu (zzu (zzu (zzu (zzu (zzu (zzu (zzu (zzu (zzu (zzu (zzu (zzu (zzu (zzu (zzu (zzu (zzu (zzu (zzu (zzu (zzu (zzu (zzu (zzu (zzu (zzu (Reps.none _ _))))))))))))))))))))))))))))))))))))))))))))))))); intro v177 w1 ho2 hb hg_ hnew_; clear hg_ hnew_; (first | rw [← Ny176.out] at ho2 | (simp only [Int.reduceToNat] at ho2; rw [← Ny176.out] at ho2)); have n0_ := Aside0.mk (Kd.R_lower ho2 (below_size zzb)); have n1_ := Aside0.mk (below_step zzb hb); clear HB; have HO178 := n0_; have HB := n1_; clear n0_ n1_; clear hb ho2))
 go_ret
 exact ⟨_, by first | rfl | (simp [errW_none, errW_some] <;> rfl) | (simp [*, errW_none, errW_some] <;> rfl), by refine zzr ?_; exact HO178.out, by repeat (first | (with_reducible first | exact HB.out | apply below_alloc | apply pw_below_drewN | apply below_drew1) | exact HB.out)⟩
def whetstoneref02_f3.f  : Option (List Int) := some (([0, 0, 0, 0, 0, 1, 4, 5, 6, 7, 0, 1, 2, 4, 5, 0, 1, 2, 0, 2, 3, 4, 6, 7, 1, 5, 5, 0, 0, 1, 2, 3, 4, 5, 5, 6, 7, 0, 1, 2, 3, 4, 5, 6, 7, 0, 0] : List Int))
set_option maxHeartbeats 8000000 in
set_option maxRecDepth 100000 in
theorem whetstoneref02_f3.calls  (r : List Int) (w : World) (h : whetstoneref02_f3.f  = some r) :
  Calls Try.prog 83 #[] w fun e w' => ∃ v0_ : Value, e = .returned (v0_) ∧ Kd.R (Kd.int .u32) 24 w' w.heap.size (fun _ => True) v0_ r ∧ Below w.heap.size w w' := by
 have HB := Aside0.mk (Below.refl w.heap.size w)
 have H : (some (([0, 0, 0, 0, 0, 1, 4, 5, 6, 7, 0, 1, 2, 4, 5, 0, 1, 2, 0, 2, 3, 4, 6, 7, 1, 5, 5, 0, 0, 1, 2, 3, 4, 5, 5, 6, 7, 0, 1, 2, 3, 4, 5, 6, 7, 0, 0] : List Int))) = some r := h
 clear h
 obtain ⟨y179, hy179⟩ : ∃ y_ : List Int, y_ = (([0, 0, 0, 0, 0, 1, 4, 5, 6, 7, 0, 1, 2, 4, 5, 0, 1, 2, 0, 2, 3, 4, 6, 7, 1, 5, 5, 0, 0, 1, 2, 3, 4, 5, 5, 6, 7, 0, 1, 2, 3, 4, 5, 6, 7, 0, 0] : List Int)) := ⟨_, rfl⟩
 replace H : (some y179) = some r := by first | (rw [hy179]; with_reducible exact H) | (have H2_ := (Option.bind_some _ _).symm.trans H; rw [hy179]; with_reducible exact H2_) | (have H2_ := (Option.bind_some _ _).symm.trans H; with_reducible exact H2_) | with_reducible exact H | (rw [hy179]; exact H) | exact H
 have Ny179 := Aside0.mk hy179
 clear hy179
 obtain rfl := Option.some.inj H
 go_enter Try.func83, Try.ntmps83
 go_wp2_with (first | ((with_reducible refine gate_dst (N := 1) rfl ?_); refine Kd.R_lit (Kd.int .u32) _ 24 ?hg (N := 1) ?hd (xs := ([0, 0, 0, 0, 0, 1, 4, 5, 6, 7, 0, 1, 2, 4, 5, 0, 1, 2, 0, 2, 3, 4, 6, 7, 1, 5, 5, 0, 0, 1, 2, 3, 4, 5, 5, 6, 7, 0, 1, 2, 3, 4, 5, 6, 7, 0, 0] : List Int)) (inner := [.int .u32 0, .int .u32 0, .int .u32 0, .int .u32 0, .int .u32 0, .int .u32 1, .int .u32 4, .int .u32 5, .int .u32 6, .int .u32 7, .int .u32 0, .int .u32 1, .int .u32 2, .int .u32 4, .int .u32 5, .int .u32 0, .int .u32 1, .int .u32 2, .int .u32 0, .int .u32 2, .int .u32 3, .int .u32 4, .int .u32 6, .int .u32 7, .int .u32 1, .int .u32 5, .int .u32 5, .int .u32 0, .int .u32 0, .int .u32 1, .int .u32 2, .int .u32 3, .int .u32 4, .int .u32 5, .int .u32 5, .int .u32 6, .int .u32 7, .int .u32 0, .int .u32 1, .int .u32 2, .int .u32 3, .int .u32 4, .int .u32 5, .int .u32 6, .int .u32 7, .int .u32 0, .int .u32 0]) (ok := fun _ => True) (okp := fun _ => True) ?hr ?hp (fun _ hk => hk) trivial (Below.refl _ _) (Nat.le_refl _) (by simp) ?_; (case hd => rfl); (case hg => rfl); (case hr => first | (go_simp; done) | (go_simp; rfl)); (case hp => exact (zzu (zzu (zzu (zzu (zzu (zzu (zzu (zzu (zzu (zzu (zzu (zzu (zzu (zzu (zzu (zzu (zzu (zzu (zzu (zzu (zzu (zzu (zzu (zzu (zzu (zzu (zzu (zzu (zzu (zzu (zzu (zzu (zzu (zzu (zzu (zzu (zzu (zzu (zzu (zzu (zzu (zzu (zzu (zzu (zzu (zzu (zzu (Reps.none _ _))))))))))))))))))))))))))))))))))))))))))))))))); intro v180 w1 ho2 hb hg_ hnew_; clear hg_ hnew_; (first | rw [← Ny179.out] at ho2 | (simp only [Int.reduceToNat] at ho2; rw [← Ny179.out] at ho2)); have n0_ := Aside0.mk (Kd.R_lower ho2 (below_size zzb)); have n1_ := Aside0.mk (below_step zzb hb); clear HB; have HO181 := n0_; have HB := n1_; clear n0_ n1_; clear hb ho2))
 go_ret
 exact ⟨_, by first | rfl | (simp [errW_none, errW_some] <;> rfl) | (simp [*, errW_none, errW_some] <;> rfl), by refine zzr ?_; exact HO181.out, by repeat (first | (with_reducible first | exact HB.out | apply below_alloc | apply pw_below_drewN | apply below_drew1) | exact HB.out)⟩
def whetstoneref02_f7.f  : Option (List Int) := some (([0, 0, 0, 0, 0, 0, 0, 0, 0, 0, 0, 0, 0, 0, 0, 0, 0, 0, 0, 0, 0, 0, 0, 0, 0, 0, 32, 0, 32, 0, 0, 0, 0, 0, 32, 0, 0, 1, 1, 1, 1, 1, 1, 1, 1, 0, 0] : List Int))
set_option maxHeartbeats 8000000 in
set_option maxRecDepth 100000 in
theorem whetstoneref02_f7.calls  (r : List Int) (w : World) (h : whetstoneref02_f7.f  = some r) :
  Calls Try.prog 84 #[] w fun e w' => ∃ v0_ : Value, e = .returned (v0_) ∧ Kd.R (Kd.int .u32) 24 w' w.heap.size (fun _ => True) v0_ r ∧ Below w.heap.size w w' := by
 have HB := Aside0.mk (Below.refl w.heap.size w)
 have H : (some (([0, 0, 0, 0, 0, 0, 0, 0, 0, 0, 0, 0, 0, 0, 0, 0, 0, 0, 0, 0, 0, 0, 0, 0, 0, 0, 32, 0, 32, 0, 0, 0, 0, 0, 32, 0, 0, 1, 1, 1, 1, 1, 1, 1, 1, 0, 0] : List Int))) = some r := h
 clear h
 obtain ⟨y182, hy182⟩ : ∃ y_ : List Int, y_ = (([0, 0, 0, 0, 0, 0, 0, 0, 0, 0, 0, 0, 0, 0, 0, 0, 0, 0, 0, 0, 0, 0, 0, 0, 0, 0, 32, 0, 32, 0, 0, 0, 0, 0, 32, 0, 0, 1, 1, 1, 1, 1, 1, 1, 1, 0, 0] : List Int)) := ⟨_, rfl⟩
 replace H : (some y182) = some r := by first | (rw [hy182]; with_reducible exact H) | (have H2_ := (Option.bind_some _ _).symm.trans H; rw [hy182]; with_reducible exact H2_) | (have H2_ := (Option.bind_some _ _).symm.trans H; with_reducible exact H2_) | with_reducible exact H | (rw [hy182]; exact H) | exact H
 have Ny182 := Aside0.mk hy182
 clear hy182
 obtain rfl := Option.some.inj H
 go_enter Try.func84, Try.ntmps84
 go_wp2_with (first | ((with_reducible refine gate_dst (N := 1) rfl ?_); refine Kd.R_lit (Kd.int .u32) _ 24 ?hg (N := 1) ?hd (xs := ([0, 0, 0, 0, 0, 0, 0, 0, 0, 0, 0, 0, 0, 0, 0, 0, 0, 0, 0, 0, 0, 0, 0, 0, 0, 0, 32, 0, 32, 0, 0, 0, 0, 0, 32, 0, 0, 1, 1, 1, 1, 1, 1, 1, 1, 0, 0] : List Int)) (inner := [.int .u32 0, .int .u32 0, .int .u32 0, .int .u32 0, .int .u32 0, .int .u32 0, .int .u32 0, .int .u32 0, .int .u32 0, .int .u32 0, .int .u32 0, .int .u32 0, .int .u32 0, .int .u32 0, .int .u32 0, .int .u32 0, .int .u32 0, .int .u32 0, .int .u32 0, .int .u32 0, .int .u32 0, .int .u32 0, .int .u32 0, .int .u32 0, .int .u32 0, .int .u32 0, .int .u32 32, .int .u32 0, .int .u32 32, .int .u32 0, .int .u32 0, .int .u32 0, .int .u32 0, .int .u32 0, .int .u32 32, .int .u32 0, .int .u32 0, .int .u32 1, .int .u32 1, .int .u32 1, .int .u32 1, .int .u32 1, .int .u32 1, .int .u32 1, .int .u32 1, .int .u32 0, .int .u32 0]) (ok := fun _ => True) (okp := fun _ => True) ?hr ?hp (fun _ hk => hk) trivial (Below.refl _ _) (Nat.le_refl _) (by simp) ?_; (case hd => rfl); (case hg => rfl); (case hr => first | (go_simp; done) | (go_simp; rfl)); (case hp => exact (zzu (zzu (zzu (zzu (zzu (zzu (zzu (zzu (zzu (zzu (zzu (zzu (zzu (zzu (zzu (zzu (zzu (zzu (zzu (zzu (zzu (zzu (zzu (zzu (zzu (zzu (zzu (zzu (zzu (zzu (zzu (zzu (zzu (zzu (zzu (zzu (zzu (zzu (zzu (zzu (zzu (zzu (zzu (zzu (zzu (zzu (zzu (Reps.none _ _))))))))))))))))))))))))))))))))))))))))))))))))); intro v183 w1 ho2 hb hg_ hnew_; clear hg_ hnew_; (first | rw [← Ny182.out] at ho2 | (simp only [Int.reduceToNat] at ho2; rw [← Ny182.out] at ho2)); have n0_ := Aside0.mk (Kd.R_lower ho2 (below_size zzb)); have n1_ := Aside0.mk (below_step zzb hb); clear HB; have HO184 := n0_; have HB := n1_; clear n0_ n1_; clear hb ho2))
 go_ret
 exact ⟨_, by first | rfl | (simp [errW_none, errW_some] <;> rfl) | (simp [*, errW_none, errW_some] <;> rfl), by refine zzr ?_; exact HO184.out, by repeat (first | (with_reducible first | exact HB.out | apply below_alloc | apply pw_below_drewN | apply below_drew1) | exact HB.out)⟩
end Go.Proofs.Ytekenddkoahjgaa.Q
