import Derived.Test.YtekenddkoahjgaaFZc
import Derived.Test.YtekenddkoahjgaaFQx3
import Derived.Test.YtekenddkoahjgaaFQx13
namespace Go.Proofs.Ytekenddkoahjgaa.Q
open Go.RowKit Go.Proofs.YtekenddkoahjgaaW.PrintWords Go.Proofs.YtekenddkoahjgaaW.PrintLast Go.Proofs.YtekenddkoahjgaaW.PrintMore
attribute [local go_sem] max2_int min2_int max_two min_two max_three min_three max_four min_four
attribute [local go_sem] imax_u32 imax_u8 isg_u32 isg_u8
set_option linter.unusedVariables false
set_option linter.unusedSimpArgs false
def whetstoneref01_Field.l0 : Nat → Int → Int → Int → List Int → Int → Option (Int)
 | 0, _, _, _, _, _ => none
 | k + 1, x0, x1, x2, x7, x8 => if x8 < x2 then ((whetstoneref01_may.f x1 x2).bind fun t134 => (if t134 = true then ((whetstoneref01_Bit.f x0 (wrap64 (x1 + x8))).bind fun t135 => (if 0 ≤ x8 then (if x8 < (x7.length : Int) then (whetstoneref01_Field.l0 k x0 x1 x2 (x7.set (x8 : Int).toNat t135) (wrap64 (x8 + 1))) else (none)) else (none))) else ((whetstoneref01_Of.f k x7).bind fun t137 => (some t137)))) else ((whetstoneref01_Of.f k x7).bind fun t138 => (some t138))
def whetstoneref01_Field.f (k : Nat) (a0 : Int) (a1 : Int) (a2 : Int) : Option (Int) := if 32 ≤ 70368744177664 then (whetstoneref01_Field.l0 k a0 a1 a2 (List.replicate 32 0) 0) else (none)
set_option maxHeartbeats 8000000 in
set_option maxRecDepth 100000 in
theorem whetstoneref01_Field.calls (k : Nat) (a0 : Int) (a1 : Int) (a2 : Int) (r : Int) (w : World) (h : whetstoneref01_Field.f k a0 a1 a2 = some r) :
  Calls Try.prog 79 #[.int .u32 a0, .int .i64 a1, .int .i64 a2] w fun e w' => e = .returned (.int .u32 r) ∧ Below w.heap.size w w' := by
 have HB := Aside0.mk (Below.refl w.heap.size w)
 have H : (if 32 ≤ 70368744177664 then (whetstoneref01_Field.l0 k a0 a1 a2 (List.replicate 32 0) 0) else (none)) = some r := h
 clear h
 by_cases c4 : 32 ≤ 70368744177664
 ·rw [if_pos c4] at H
  have c4b0 := eq_true c4
  have c4b1 : decide (32 ≤ 70368744177664) = true := decide_eq_true c4
  clear c4
  obtain ⟨y131, hy131⟩ : ∃ y_ : List Int, y_ = (List.replicate 32 0) := ⟨_, rfl⟩
  replace H : (whetstoneref01_Field.l0 k a0 a1 a2 y131 0) = some r := by first | (rw [hy131]; with_reducible exact H) | (have H2_ := (Option.bind_some _ _).symm.trans H; rw [hy131]; with_reducible exact H2_) | (have H2_ := (Option.bind_some _ _).symm.trans H; with_reducible exact H2_) | with_reducible exact H | (rw [hy131]; exact H) | exact H
  have Ny131 := Aside0.mk hy131
  clear hy131
  have H' := Aside0.mk H
  clear H
  go_enter Try.func79, Try.ntmps79
  go_wp2_with (first | ((with_reducible refine gate_dst (N := 9) rfl ?_); refine Kd.R_make (Kd.int .u32) _ 24 rfl (N := 9) rfl 27 _ _ rfl 32 rfl rfl Try.underlying27 (.int .u32 0) 4 info24 rfl (by decide) (by omega) 0 (ok := fun _ => True) (okp := fun _ => True) rfl (fun _ hk => hk) trivial (by omega) (by omega) (Below.refl _ _) (Nat.le_refl _) ?_; intro v132 w5 ho6 hb hg_ hnew_; clear hg_ hnew_; (first | rw [← Ny131.out] at ho6 | (simp only [Int.reduceToNat] at ho6; rw [← Ny131.out] at ho6)); have n0_ := Aside0.mk (Kd.R_lower ho6 (below_size zzb)); have n1_ := Aside0.mk (below_step zzb hb); clear HB; have HO133 := n0_; have HB := n1_; clear n0_ n1_; clear hb ho6))
  go_loopg [8] k (fun kq v8 w' => ∃ (x7_1 : List Int) (x8_1 : Int), v8 = .int .i64 x8_1 ∧ Aside0 (whetstoneref01_Field.l0 kq a0 a1 a2 x7_1 x8_1 = some r) ∧ Aside0 (kq ≤ k) ∧ Aside0 (Kd.R (Kd.int .u32) 24 w' w.heap.size (fun _ => True) v132 x7_1) ∧ Aside0 (Below w.heap.size w w'))
  case atStart => exact ⟨(y131), (0), (by first | rfl | (simp; done) | (simp [*]; done)), H', ⟨Nat.le_refl _⟩, ⟨by refine zzr ?_; exact HO133.out⟩, ⟨by repeat (first | (with_reducible first | exact HB.out | apply below_alloc | apply pw_below_drewN | apply below_drew1) | exact HB.out)⟩⟩
  case round =>
   clear H'
   try clear p2
   try clear c4
   try clear c4b0
   try clear c4b1
   obtain ⟨x7_1, x8_1, rfl, HA, HK1, HO_7, HB⟩ := hrel
   cases gk with
   | zero => exact absurd HA.out (by simp [whetstoneref01_Field.l0])
   | succ k1 =>
    have H := HA.out
    clear HA
    simp only [whetstoneref01_Field.l0] at H
    by_cases c7 : x8_1 < a2
    ·rw [if_pos c7] at H
     have c7b0 : decide (x8_1 < a2) = true := decide_eq_true c7
     clear c7
     replace H := Option.bind_eq_some_iff.mp H
     obtain ⟨t134, A80, H⟩ := H
     replace H : (if t134 = true then ((whetstoneref01_Bit.f a0 (wrap64 (a1 + x8_1))).bind fun t135 => (if 0 ≤ x8_1 then (if x8_1 < (x7_1.length : Int) then (whetstoneref01_Field.l0 k1 a0 a1 a2 (x7_1.set (x8_1 : Int).toNat t135) (wrap64 (x8_1 + 1))) else (none)) else (none))) else ((whetstoneref01_Of.f k1 x7_1).bind fun t137 => (some t137))) = some r := H
     have A8 := Aside0.mk A80
     clear A80
     by_cases c9 : t134 = true
     ·subst c9
      have H1 : ((whetstoneref01_Bit.f a0 (wrap64 (a1 + x8_1))).bind fun t135 => (if 0 ≤ x8_1 then (if x8_1 < (x7_1.length : Int) then (whetstoneref01_Field.l0 k1 a0 a1 a2 (x7_1.set (x8_1 : Int).toNat t135) (wrap64 (x8_1 + 1))) else (none)) else (none))) = some r := by rw [if_pos rfl] at H; exact H
      clear H
      have H := H1
      clear H1
      replace H := Option.bind_eq_some_iff.mp H
      obtain ⟨t135, A100, H⟩ := H
      replace H : (if 0 ≤ x8_1 then (if x8_1 < (x7_1.length : Int) then (whetstoneref01_Field.l0 k1 a0 a1 a2 (x7_1.set (x8_1 : Int).toNat t135) (wrap64 (x8_1 + 1))) else (none)) else (none)) = some r := H
      have A10 := Aside0.mk A100
      clear A100
      by_cases c11 : 0 ≤ x8_1
      ·rw [if_pos c11] at H
       have c11b0 : decide (0 ≤ x8_1) = true := decide_eq_true c11
       clear c11
       by_cases c12 : x8_1 < (x7_1.length : Int)
       ·rw [if_pos c12] at H
        have c12b0 : decide (x8_1 < (x7_1.length : Int)) = true := decide_eq_true c12
        clear c12
        obtain ⟨y136, hy136⟩ : ∃ y_ : List Int, y_ = (x7_1.set (x8_1 : Int).toNat t135) := ⟨_, rfl⟩
        replace H : (whetstoneref01_Field.l0 k1 a0 a1 a2 y136 (wrap64 (x8_1 + 1))) = some r := by first | (rw [hy136]; with_reducible exact H) | (have H2_ := (Option.bind_some _ _).symm.trans H; rw [hy136]; with_reducible exact H2_) | (have H2_ := (Option.bind_some _ _).symm.trans H; with_reducible exact H2_) | with_reducible exact H | (rw [hy136]; exact H) | exact H
        have Ny136 := Aside0.mk hy136
        clear hy136
        have H' := Aside0.mk H
        clear H
        go_wp2_with (first | (go_at_call 95; (with_reducible refine (whetstoneref01_may.calls a1 a2 true _ A8.out).mono ?_); rintro e w' ⟨rfl, ⟨nd, rfl⟩⟩; (try (rw [drewN_self wr]; generalize hq_ : World.drewN wr _ = wr; have n0_ : Aside0 (Kd.R (Kd.int .u32) 24 wr w.heap.size (fun _ => True) v132 x7_1) := ⟨by rw [← hq_]; exact (zzr HO_7.out)⟩; have n1_ : Aside0 (Below w.heap.size w wr) := ⟨by rw [← hq_]; exact zzb⟩; clear HO_7 HB hq_; have HO_7 := n0_; have HB := n1_; clear n0_ n1_))) | ((with_reducible refine gate_callee (f := 81) rfl ?_); refine goesL_ (some 26) rfl rfl Try.func81 (by kernel_rfl) rfl #[.int .u32 a0, .int .i64 (wrap64 (a1 + x8_1))] rfl zza ?_; (with_reducible refine (whetstoneref01_Bit.calls a0 (wrap64 (a1 + x8_1)) t135 _ A10.out).mono ?_); rintro e w' ⟨rfl, ⟨nd, rfl⟩⟩; refine ⟨_, rfl, ?_⟩; (try (rw [drewN_self wr]; generalize hq_ : World.drewN wr _ = wr; have n0_ : Aside0 (Kd.R (Kd.int .u32) 24 wr w.heap.size (fun _ => True) v132 x7_1) := ⟨by rw [← hq_]; exact (zzr HO_7.out)⟩; have n1_ : Aside0 (Below w.heap.size w wr) := ⟨by rw [← hq_]; exact zzb⟩; clear HO_7 HB hq_; have HO_7 := n0_; have HB := n1_; clear n0_ n1_)); have p13 : 0 ≤ (x8_1 : Int) := of_decide_eq_true zzm; have q13 : (x8_1 : Int) < ((x7_1.length : Int) : Int) := of_decide_eq_true zzm; obtain ⟨go13, co13, eo13, gb13, gl13, cl13, HG13⟩ := Kd.R_form HO_7.out (by omega); (first | cases eo13 | (injection eo13 with ea_ en_ ec_; (first | subst ea_ | (injection ea_ with ea_; subst ea_)); subst ec_; clear en_)); have GB13 := Aside0.mk gb13; have GG13 := Aside0.mk HG13; clear gb13 gl13 HG13; obtain ⟨hx13_0, hf13_0⟩ := Kd.R_celln 0 HO_7.out (x8_1 : Int) p13 q13; replace p13 := eq_true p13; replace q13 := eq_true q13; obtain ⟨hy14_, hz14_⟩ := Kd.R_celln 0 HO_7.out (x8_1 : Int) (of_decide_eq_true zzm) (of_decide_eq_true zzm); have HP14 := Kd.R_putg HO_7.out (x8_1 : Int) t135) | ((with_reducible refine gate_store (t := 24) (p := 27) rfl ?_); refine store_event (t := 24) (p := 27) (v := ?vo_w15) (w1 := (wr.setCell ⟨go13, (x8_1 : Int).toNat, none⟩ (.int .u32 t135))) ?hg ?ho ?hn ?hr ?_; (case ho => rfl); (case hg => rfl); (case hn => rfl); (case hr => first | (go_simp; done) | (go_simp; rfl)); intro w15 hw; have hg : wr.grownBy w15 (some go13) := (by rw [hw]; exact HP14.2); have hp_ : Kd.R (Kd.int .u32) 24 w15 w.heap.size (fun _ => True) (.slice (some ⟨go13, 0, none⟩) x7_1.length co13) y136 := (by rw [hw, Ny136.out]; exact HP14.1); clear HP14; have n0_ := Aside0.mk (hp_); have n1_ := Aside0.mk ((by rw [hw]; exact below_set (HB.out) GB13.out : Below w.heap.size w w15)); clear HO_7; clear HB; have HO_7 := n0_; have HB := n1_; clear n0_ n1_; clear hg hw hp_))
        go_roundg k1
        case measure => have := HK1.out; omega
        case rel => exact ⟨(y136), (wrap64 (x8_1 + 1)), (by first | rfl | (simp; done) | (simp [*]; done)), H', ⟨by have := HK1.out; omega⟩, ⟨by refine zzr ?_; exact HO_7.out⟩, ⟨by repeat (first | (with_reducible first | exact HB.out | apply below_alloc | apply pw_below_drewN | apply below_drew1) | exact HB.out)⟩⟩
       ·rw [if_neg c12] at H
        exact absurd H (by simp)
      ·rw [if_neg c11] at H
       exact absurd H (by simp)
     ·replace c9 := Bool.eq_false_iff.mpr c9
      subst c9
      have H1 : ((whetstoneref01_Of.f k1 x7_1).bind fun t137 => (some t137)) = some r := by rw [if_neg (show ¬ (false = true) by decide)] at H; exact H
      clear H
      have H := H1
      clear H1
      replace H := Option.bind_eq_some_iff.mp H
      obtain ⟨t137, A160, H⟩ := H
      replace H : (some t137) = some r := H
      have A16 := Aside0.mk A160
      clear A160
      obtain rfl := Option.some.inj H
      go_wp2_with (first | (go_at_call 95; (with_reducible refine (whetstoneref01_may.calls a1 a2 false _ A8.out).mono ?_); rintro e w' ⟨rfl, ⟨nd, rfl⟩⟩; obtain ⟨Ao17, co17, eo17⟩ := Kd.R_slice HO_7.out; subst eo17) | ((with_reducible refine gate_callee (f := 96) rfl ?_); refine goesL_ (some 29) rfl rfl Try.func96 (by kernel_rfl) rfl #[.slice Ao17 x7_1.length co17] rfl zza ?_; (with_reducible refine (whetstoneref01_Of.calls k1 _ _ x7_1 t137 _ ?side1 ?side2 A16.out).mono ?_); (case side1 => repeat (first | exact (Kd.R_reads' HO_7.out).2.2 | (with_reducible refine Kd.C_alloc ?_ _) | (with_reducible refine Kd.C_drewN ?_ _) | (with_reducible refine Kd.C_drew ?_))); (case side2 => exact (Kd.R_reads' HO_7.out).2.1); rintro e w' ⟨rfl, ⟨nd, rfl⟩⟩; refine ⟨_, rfl, ?_⟩))
      go_ret
      exact ⟨by first | rfl | (simp [errW_none, errW_some] <;> rfl) | (simp [*, errW_none, errW_some] <;> rfl), by repeat (first | (with_reducible first | exact HB.out | apply below_alloc | apply pw_below_drewN | apply below_drew1) | exact HB.out)⟩
    ·rw [if_neg c7] at H
     have c7b0 : decide (x8_1 < a2) = false := decide_eq_false c7
     clear c7
     replace H := Option.bind_eq_some_iff.mp H
     obtain ⟨t138, A180, H⟩ := H
     replace H : (some t138) = some r := H
     have A18 := Aside0.mk A180
     clear A180
     obtain rfl := Option.some.inj H
     obtain ⟨Ao19, co19, eo19⟩ := Kd.R_slice HO_7.out
     subst eo19
     go_wp2_with (first | ((with_reducible refine gate_callee (f := 96) rfl ?_); refine goesL_ (some 29) rfl rfl Try.func96 (by kernel_rfl) rfl #[.slice Ao19 x7_1.length co19] rfl zza ?_; (with_reducible refine (whetstoneref01_Of.calls k1 _ _ x7_1 t138 _ ?side1 ?side2 A18.out).mono ?_); (case side1 => repeat (first | exact (Kd.R_reads' HO_7.out).2.2 | (with_reducible refine Kd.C_alloc ?_ _) | (with_reducible refine Kd.C_drewN ?_ _) | (with_reducible refine Kd.C_drew ?_))); (case side2 => exact (Kd.R_reads' HO_7.out).2.1); rintro e w' ⟨rfl, ⟨nd, rfl⟩⟩; refine ⟨_, rfl, ?_⟩))
     go_ret
     exact ⟨by first | rfl | (simp [errW_none, errW_some] <;> rfl) | (simp [*, errW_none, errW_some] <;> rfl), by repeat (first | (with_reducible first | exact HB.out | apply below_alloc | apply pw_below_drewN | apply below_drew1) | exact HB.out)⟩
 ·rw [if_neg c4] at H
  exact absurd H (by simp)
def whetstoneref02_places.f (a0 : Int) : Option (List Int) := if a0 = 85 then (some (([12, 13, 14, 15, 16, 17, 18, 19, 20, 21, 22, 23, 24, 25, 26, 27, 28, 29, 30, 31] : List Int))) else (if a0 = 74 then (some (([(-1), 21, 22, 23, 24, 25, 26, 27, 28, 29, 30, 20, 12, 13, 14, 15, 16, 17, 18, 19, 31] : List Int))) else (if a0 = 73 then (some (([20, 21, 22, 23, 24, 25, 26, 27, 28, 29, 30, 31] : List Int))) else (if a0 = 83 then (some (([7, 8, 9, 10, 11, 25, 26, 27, 28, 29, 30, 31] : List Int))) else (if a0 = 66 then (some (([(-1), 8, 9, 10, 11, 25, 26, 27, 28, 29, 30, 7, 31] : List Int))) else (if a0 = 72 then (some (([20, 21, 22, 23, 24] : List Int))) else (some (([] : List Int))))))))
set_option maxHeartbeats 8000000 in
set_option maxRecDepth 100000 in
theorem whetstoneref02_places.calls (a0 : Int) (r : List Int) (w : World) (h : whetstoneref02_places.f a0 = some r) :
  Calls Try.prog 80 #[.int .u8 a0] w fun e w' => ∃ v0_ : Value, e = .returned (v0_) ∧ Kd.R (Kd.int .i64) 3 w' w.heap.size (fun _ => True) v0_ r ∧ Below w.heap.size w w' := by
 have HB := Aside0.mk (Below.refl w.heap.size w)
 have H : (if a0 = 85 then (some (([12, 13, 14, 15, 16, 17, 18, 19, 20, 21, 22, 23, 24, 25, 26, 27, 28, 29, 30, 31] : List Int))) else (if a0 = 74 then (some (([(-1), 21, 22, 23, 24, 25, 26, 27, 28, 29, 30, 20, 12, 13, 14, 15, 16, 17, 18, 19, 31] : List Int))) else (if a0 = 73 then (some (([20, 21, 22, 23, 24, 25, 26, 27, 28, 29, 30, 31] : List Int))) else (if a0 = 83 then (some (([7, 8, 9, 10, 11, 25, 26, 27, 28, 29, 30, 31] : List Int))) else (if a0 = 66 then (some (([(-1), 8, 9, 10, 11, 25, 26, 27, 28, 29, 30, 7, 31] : List Int))) else (if a0 = 72 then (some (([20, 21, 22, 23, 24] : List Int))) else (some (([] : List Int))))))))) = some r := h
 clear h
 by_cases c2 : a0 = 85
 ·rw [if_pos c2] at H
  have c2b0 : (a0 == 85) = true := beq_iff_eq.mpr c2
  have c2b1 : (a0 != 85) = false := bne_eq_false_iff_eq.mpr c2
  clear c2
  obtain ⟨y139, hy139⟩ : ∃ y_ : List Int, y_ = (([12, 13, 14, 15, 16, 17, 18, 19, 20, 21, 22, 23, 24, 25, 26, 27, 28, 29, 30, 31] : List Int)) := ⟨_, rfl⟩
  replace H : (some y139) = some r := by first | (rw [hy139]; with_reducible exact H) | (have H2_ := (Option.bind_some _ _).symm.trans H; rw [hy139]; with_reducible exact H2_) | (have H2_ := (Option.bind_some _ _).symm.trans H; with_reducible exact H2_) | with_reducible exact H | (rw [hy139]; exact H) | exact H
  have Ny139 := Aside0.mk hy139
  clear hy139
  obtain rfl := Option.some.inj H
  go_enter Try.func80, Try.ntmps80
  go_wp2_with (first | ((with_reducible refine gate_dst (N := 6) rfl ?_); refine Kd.R_lit (Kd.int .i64) _ 3 ?hg (N := 6) ?hd (xs := ([12, 13, 14, 15, 16, 17, 18, 19, 20, 21, 22, 23, 24, 25, 26, 27, 28, 29, 30, 31] : List Int)) (inner := [.int .i64 12, .int .i64 13, .int .i64 14, .int .i64 15, .int .i64 16, .int .i64 17, .int .i64 18, .int .i64 19, .int .i64 20, .int .i64 21, .int .i64 22, .int .i64 23, .int .i64 24, .int .i64 25, .int .i64 26, .int .i64 27, .int .i64 28, .int .i64 29, .int .i64 30, .int .i64 31]) (ok := fun _ => True) (okp := fun _ => True) ?hr ?hp (fun _ hk => hk) trivial (Below.refl _ _) (Nat.le_refl _) (by simp) ?_; (case hd => rfl); (case hg => rfl); (case hr => first | (go_simp; done) | (go_simp; rfl)); (case hp => exact (zzu (zzu (zzu (zzu (zzu (zzu (zzu (zzu (zzu (zzu (zzu (zzu (zzu (zzu (zzu (zzu (zzu (zzu (zzu (zzu (Reps.none _ _)))))))))))))))))))))); intro v140 w3 ho4 hb hg_ hnew_; clear hg_ hnew_; (first | rw [← Ny139.out] at ho4 | (simp only [Int.reduceToNat] at ho4; rw [← Ny139.out] at ho4)); have n0_ := Aside0.mk (Kd.R_lower ho4 (below_size zzb)); have n1_ := Aside0.mk (below_step zzb hb); clear HB; have HO141 := n0_; have HB := n1_; clear n0_ n1_; clear hb ho4))
  go_ret
  exact ⟨_, by first | rfl | (simp [errW_none, errW_some] <;> rfl) | (simp [*, errW_none, errW_some] <;> rfl), by refine zzr ?_; exact HO141.out, by repeat (first | (with_reducible first | exact HB.out | apply below_alloc | apply pw_below_drewN | apply below_drew1) | exact HB.out)⟩
 ·rw [if_neg c2] at H
  have c2b0 : (a0 == 85) = false := beq_eq_false_iff_ne.mpr c2
  have c2b1 : (a0 != 85) = true := bne_iff_ne.mpr c2
  by_cases c5 : a0 = 74
  ·rw [if_pos c5] at H
   have c5b0 : (a0 == 74) = true := beq_iff_eq.mpr c5
   have c5b1 : (a0 != 74) = false := bne_eq_false_iff_eq.mpr c5
   clear c5
   obtain ⟨y142, hy142⟩ : ∃ y_ : List Int, y_ = (([(-1), 21, 22, 23, 24, 25, 26, 27, 28, 29, 30, 20, 12, 13, 14, 15, 16, 17, 18, 19, 31] : List Int)) := ⟨_, rfl⟩
   replace H : (some y142) = some r := by first | (rw [hy142]; with_reducible exact H) | (have H2_ := (Option.bind_some _ _).symm.trans H; rw [hy142]; with_reducible exact H2_) | (have H2_ := (Option.bind_some _ _).symm.trans H; with_reducible exact H2_) | with_reducible exact H | (rw [hy142]; exact H) | exact H
   have Ny142 := Aside0.mk hy142
   clear hy142
   obtain rfl := Option.some.inj H
   go_enter Try.func80, Try.ntmps80
   go_wp2_with (first | ((with_reducible refine gate_dst (N := 9) rfl ?_); refine Kd.R_lit (Kd.int .i64) _ 3 ?hg (N := 9) ?hd (xs := ([(-1), 21, 22, 23, 24, 25, 26, 27, 28, 29, 30, 20, 12, 13, 14, 15, 16, 17, 18, 19, 31] : List Int)) (inner := [.int .i64 (-1), .int .i64 21, .int .i64 22, .int .i64 23, .int .i64 24, .int .i64 25, .int .i64 26, .int .i64 27, .int .i64 28, .int .i64 29, .int .i64 30, .int .i64 20, .int .i64 12, .int .i64 13, .int .i64 14, .int .i64 15, .int .i64 16, .int .i64 17, .int .i64 18, .int .i64 19, .int .i64 31]) (ok := fun _ => True) (okp := fun _ => True) ?hr ?hp (fun _ hk => hk) trivial (Below.refl _ _) (Nat.le_refl _) (by simp) ?_; (case hd => rfl); (case hg => rfl); (case hr => first | (go_simp; done) | (go_simp; rfl)); (case hp => exact (zzu (zzu (zzu (zzu (zzu (zzu (zzu (zzu (zzu (zzu (zzu (zzu (zzu (zzu (zzu (zzu (zzu (zzu (zzu (zzu (zzu (Reps.none _ _))))))))))))))))))))))); intro v143 w6 ho7 hb hg_ hnew_; clear hg_ hnew_; (first | rw [← Ny142.out] at ho7 | (simp only [Int.reduceToNat] at ho7; rw [← Ny142.out] at ho7)); have n0_ := Aside0.mk (Kd.R_lower ho7 (below_size zzb)); have n1_ := Aside0.mk (below_step zzb hb); clear HB; have HO144 := n0_; have HB := n1_; clear n0_ n1_; clear hb ho7))
   go_ret
   exact ⟨_, by first | rfl | (simp [errW_none, errW_some] <;> rfl) | (simp [*, errW_none, errW_some] <;> rfl), by refine zzr ?_; exact HO144.out, by repeat (first | (with_reducible first | exact HB.out | apply below_alloc | apply pw_below_drewN | apply below_drew1) | exact HB.out)⟩
  ·rw [if_neg c5] at H
   have c5b0 : (a0 == 74) = false := beq_eq_false_iff_ne.mpr c5
   have c5b1 : (a0 != 74) = true := bne_iff_ne.mpr c5
   by_cases c8 : a0 = 73
   ·rw [if_pos c8] at H
    have c8b0 : (a0 == 73) = true := beq_iff_eq.mpr c8
    have c8b1 : (a0 != 73) = false := bne_eq_false_iff_eq.mpr c8
    clear c8
    obtain ⟨y145, hy145⟩ : ∃ y_ : List Int, y_ = (([20, 21, 22, 23, 24, 25, 26, 27, 28, 29, 30, 31] : List Int)) := ⟨_, rfl⟩
    replace H : (some y145) = some r := by first | (rw [hy145]; with_reducible exact H) | (have H2_ := (Option.bind_some _ _).symm.trans H; rw [hy145]; with_reducible exact H2_) | (have H2_ := (Option.bind_some _ _).symm.trans H; with_reducible exact H2_) | with_reducible exact H | (rw [hy145]; exact H) | exact H
    have Ny145 := Aside0.mk hy145
    clear hy145
    obtain rfl := Option.some.inj H
    go_enter Try.func80, Try.ntmps80
    go_wp2_with (first | ((with_reducible refine gate_dst (N := 12) rfl ?_); refine Kd.R_lit (Kd.int .i64) _ 3 ?hg (N := 12) ?hd (xs := ([20, 21, 22, 23, 24, 25, 26, 27, 28, 29, 30, 31] : List Int)) (inner := [.int .i64 20, .int .i64 21, .int .i64 22, .int .i64 23, .int .i64 24, .int .i64 25, .int .i64 26, .int .i64 27, .int .i64 28, .int .i64 29, .int .i64 30, .int .i64 31]) (ok := fun _ => True) (okp := fun _ => True) ?hr ?hp (fun _ hk => hk) trivial (Below.refl _ _) (Nat.le_refl _) (by simp) ?_; (case hd => rfl); (case hg => rfl); (case hr => first | (go_simp; done) | (go_simp; rfl)); (case hp => exact (zzu (zzu (zzu (zzu (zzu (zzu (zzu (zzu (zzu (zzu (zzu (zzu (Reps.none _ _)))))))))))))); intro v146 w9 ho10 hb hg_ hnew_; clear hg_ hnew_; (first | rw [← Ny145.out] at ho10 | (simp only [Int.reduceToNat] at ho10; rw [← Ny145.out] at ho10)); have n0_ := Aside0.mk (Kd.R_lower ho10 (below_size zzb)); have n1_ := Aside0.mk (below_step zzb hb); clear HB; have HO147 := n0_; have HB := n1_; clear n0_ n1_; clear hb ho10))
    go_ret
    exact ⟨_, by first | rfl | (simp [errW_none, errW_some] <;> rfl) | (simp [*, errW_none, errW_some] <;> rfl), by refine zzr ?_; exact HO147.out, by repeat (first | (with_reducible first | exact HB.out | apply below_alloc | apply pw_below_drewN | apply below_drew1) | exact HB.out)⟩
   ·rw [if_neg c8] at H
    have c8b0 : (a0 == 73) = false := beq_eq_false_iff_ne.mpr c8
    have c8b1 : (a0 != 73) = true := bne_iff_ne.mpr c8
    by_cases c11 : a0 = 83
    ·rw [if_pos c11] at H
     have c11b0 : (a0 == 83) = true := beq_iff_eq.mpr c11
     have c11b1 : (a0 != 83) = false := bne_eq_false_iff_eq.mpr c11
     clear c11
     obtain ⟨y148, hy148⟩ : ∃ y_ : List Int, y_ = (([7, 8, 9, 10, 11, 25, 26, 27, 28, 29, 30, 31] : List Int)) := ⟨_, rfl⟩
     replace H : (some y148) = some r := by first | (rw [hy148]; with_reducible exact H) | (have H2_ := (Option.bind_some _ _).symm.trans H; rw [hy148]; with_reducible exact H2_) | (have H2_ := (Option.bind_some _ _).symm.trans H; with_reducible exact H2_) | with_reducible exact H | (rw [hy148]; exact H) | exact H
     have Ny148 := Aside0.mk hy148
     clear hy148
     obtain rfl := Option.some.inj H
     go_enter Try.func80, Try.ntmps80
     go_wp2_with (first | ((with_reducible refine gate_dst (N := 15) rfl ?_); refine Kd.R_lit (Kd.int .i64) _ 3 ?hg (N := 15) ?hd (xs := ([7, 8, 9, 10, 11, 25, 26, 27, 28, 29, 30, 31] : List Int)) (inner := [.int .i64 7, .int .i64 8, .int .i64 9, .int .i64 10, .int .i64 11, .int .i64 25, .int .i64 26, .int .i64 27, .int .i64 28, .int .i64 29, .int .i64 30, .int .i64 31]) (ok := fun _ => True) (okp := fun _ => True) ?hr ?hp (fun _ hk => hk) trivial (Below.refl _ _) (Nat.le_refl _) (by simp) ?_; (case hd => rfl); (case hg => rfl); (case hr => first | (go_simp; done) | (go_simp; rfl)); (case hp => exact (zzu (zzu (zzu (zzu (zzu (zzu (zzu (zzu (zzu (zzu (zzu (zzu (Reps.none _ _)))))))))))))); intro v149 w12 ho13 hb hg_ hnew_; clear hg_ hnew_; (first | rw [← Ny148.out] at ho13 | (simp only [Int.reduceToNat] at ho13; rw [← Ny148.out] at ho13)); have n0_ := Aside0.mk (Kd.R_lower ho13 (below_size zzb)); have n1_ := Aside0.mk (below_step zzb hb); clear HB; have HO150 := n0_; have HB := n1_; clear n0_ n1_; clear hb ho13))
     go_ret
     exact ⟨_, by first | rfl | (simp [errW_none, errW_some] <;> rfl) | (simp [*, errW_none, errW_some] <;> rfl), by refine zzr ?_; exact HO150.out, by repeat (first | (with_reducible first | exact HB.out | apply below_alloc | apply pw_below_drewN | apply below_drew1) | exact HB.out)⟩
    ·rw [if_neg c11] at H
     have c11b0 : (a0 == 83) = false := beq_eq_false_iff_ne.mpr c11
     have c11b1 : (a0 != 83) = true := bne_iff_ne.mpr c11
     by_cases c14 : a0 = 66
     ·rw [if_pos c14] at H
      have c14b0 : (a0 == 66) = true := beq_iff_eq.mpr c14
      have c14b1 : (a0 != 66) = false := bne_eq_false_iff_eq.mpr c14
      clear c14
      obtain ⟨y151, hy151⟩ : ∃ y_ : List Int, y_ = (([(-1), 8, 9, 10, 11, 25, 26, 27, 28, 29, 30, 7, 31] : List Int)) := ⟨_, rfl⟩
      replace H : (some y151) = some r := by first | (rw [hy151]; with_reducible exact H) | (have H2_ := (Option.bind_some _ _).symm.trans H; rw [hy151]; with_reducible exact H2_) | (have H2_ := (Option.bind_some _ _).symm.trans H; with_reducible exact H2_) | with_reducible exact H | (rw [hy151]; exact H) | exact H
      have Ny151 := Aside0.mk hy151
      clear hy151
      obtain rfl := Option.some.inj H
      go_enter Try.func80, Try.ntmps80
      go_wp2_with (first | ((with_reducible refine gate_dst (N := 18) rfl ?_); refine Kd.R_lit (Kd.int .i64) _ 3 ?hg (N := 18) ?hd (xs := ([(-1), 8, 9, 10, 11, 25, 26, 27, 28, 29, 30, 7, 31] : List Int)) (inner := [.int .i64 (-1), .int .i64 8, .int .i64 9, .int .i64 10, .int .i64 11, .int .i64 25, .int .i64 26, .int .i64 27, .int .i64 28, .int .i64 29, .int .i64 30, .int .i64 7, .int .i64 31]) (ok := fun _ => True) (okp := fun _ => True) ?hr ?hp (fun _ hk => hk) trivial (Below.refl _ _) (Nat.le_refl _) (by simp) ?_; (case hd => rfl); (case hg => rfl); (case hr => first | (go_simp; done) | (go_simp; rfl)); (case hp => exact (zzu (zzu (zzu (zzu (zzu (zzu (zzu (zzu (zzu (zzu (zzu (zzu (zzu (Reps.none _ _))))))))))))))); intro v152 w15 ho16 hb hg_ hnew_; clear hg_ hnew_; (first | rw [← Ny151.out] at ho16 | (simp only [Int.reduceToNat] at ho16; rw [← Ny151.out] at ho16)); have n0_ := Aside0.mk (Kd.R_lower ho16 (below_size zzb)); have n1_ := Aside0.mk (below_step zzb hb); clear HB; have HO153 := n0_; have HB := n1_; clear n0_ n1_; clear hb ho16))
      go_ret
      exact ⟨_, by first | rfl | (simp [errW_none, errW_some] <;> rfl) | (simp [*, errW_none, errW_some] <;> rfl), by refine zzr ?_; exact HO153.out, by repeat (first | (with_reducible first | exact HB.out | apply below_alloc | apply pw_below_drewN | apply below_drew1) | exact HB.out)⟩
     ·rw [if_neg c14] at H
      have c14b0 : (a0 == 66) = false := beq_eq_false_iff_ne.mpr c14
      have c14b1 : (a0 != 66) = true := bne_iff_ne.mpr c14
      by_cases c17 : a0 = 72
      ·rw [if_pos c17] at H
       have c17b0 : (a0 == 72) = true := beq_iff_eq.mpr c17
       have c17b1 : (a0 != 72) = false := bne_eq_false_iff_eq.mpr c17
       clear c17
       obtain ⟨y154, hy154⟩ : ∃ y_ : List Int, y_ = (([20, 21, 22, 23, 24] : List Int)) := ⟨_, rfl⟩
       replace H : (some y154) = some r := by first | (rw [hy154]; with_reducible exact H) | (have H2_ := (Option.bind_some _ _).symm.trans H; rw [hy154]; with_reducible exact H2_) | (have H2_ := (Option.bind_some _ _).symm.trans H; with_reducible exact H2_) | with_reducible exact H | (rw [hy154]; exact H) | exact H
       have Ny154 := Aside0.mk hy154
       clear hy154
       obtain rfl := Option.some.inj H
       go_enter Try.func80, Try.ntmps80
       go_wp2_with (first | ((with_reducible refine gate_dst (N := 21) rfl ?_); refine Kd.R_lit (Kd.int .i64) _ 3 ?hg (N := 21) ?hd (xs := ([20, 21, 22, 23, 24] : List Int)) (inner := [.int .i64 20, .int .i64 21, .int .i64 22, .int .i64 23, .int .i64 24]) (ok := fun _ => True) (okp := fun _ => True) ?hr ?hp (fun _ hk => hk) trivial (Below.refl _ _) (Nat.le_refl _) (by simp) ?_; (case hd => rfl); (case hg => rfl); (case hr => first | (go_simp; done) | (go_simp; rfl)); (case hp => exact (zzu (zzu (zzu (zzu (zzu (Reps.none _ _))))))); intro v155 w18 ho19 hb hg_ hnew_; clear hg_ hnew_; (first | rw [← Ny154.out] at ho19 | (simp only [Int.reduceToNat] at ho19; rw [← Ny154.out] at ho19)); have n0_ := Aside0.mk (Kd.R_lower ho19 (below_size zzb)); have n1_ := Aside0.mk (below_step zzb hb); clear HB; have HO156 := n0_; have HB := n1_; clear n0_ n1_; clear hb ho19))
       go_ret
       exact ⟨_, by first | rfl | (simp [errW_none, errW_some] <;> rfl) | (simp [*, errW_none, errW_some] <;> rfl), by refine zzr ?_; exact HO156.out, by repeat (first | (with_reducible first | exact HB.out | apply below_alloc | apply pw_below_drewN | apply below_drew1) | exact HB.out)⟩
      ·rw [if_neg c17] at H
       have c17b0 : (a0 == 72) = false := beq_eq_false_iff_ne.mpr c17
       have c17b1 : (a0 != 72) = true := bne_iff_ne.mpr c17
       obtain ⟨y157, hy157⟩ : ∃ y_ : List Int, y_ = (([] : List Int)) := ⟨_, rfl⟩
       replace H : (some y157) = some r := by first | (rw [hy157]; with_reducible exact H) | (have H2_ := (Option.bind_some _ _).symm.trans H; rw [hy157]; with_reducible exact H2_) | (have H2_ := (Option.bind_some _ _).symm.trans H; with_reducible exact H2_) | with_reducible exact H | (rw [hy157]; exact H) | exact H
       have Ny157 := Aside0.mk hy157
       clear hy157
       obtain rfl := Option.some.inj H
       go_enter Try.func80, Try.ntmps80
       go_wp2_with (first | ((with_reducible refine gate_dst (N := 22) rfl ?_); refine Kd.R_lit (Kd.int .i64) _ 3 ?hg (N := 22) ?hd (xs := ([] : List Int)) (inner := []) (ok := fun _ => True) (okp := fun _ => True) ?hr ?hp (fun _ hk => hk) trivial (Below.refl _ _) (Nat.le_refl _) (by simp) ?_; (case hd => rfl); (case hg => rfl); (case hr => first | (go_simp; done) | (go_simp; rfl)); (case hp => exact (Reps.none _ _)); intro v158 w20 ho21 hb hg_ hnew_; clear hg_ hnew_; (first | rw [← Ny157.out] at ho21 | (simp only [Int.reduceToNat] at ho21; rw [← Ny157.out] at ho21)); have n0_ := Aside0.mk (Kd.R_lower ho21 (below_size zzb)); have n1_ := Aside0.mk (below_step zzb hb); clear HB; have HO159 := n0_; have HB := n1_; clear n0_ n1_; clear hb ho21))
       go_ret
       exact ⟨_, by first | rfl | (simp [errW_none, errW_some] <;> rfl) | (simp [*, errW_none, errW_some] <;> rfl), by refine zzr ?_; exact HO159.out, by repeat (first | (with_reducible first | exact HB.out | apply below_alloc | apply pw_below_drewN | apply below_drew1) | exact HB.out)⟩
end Go.Proofs.Ytekenddkoahjgaa.Q
