import Derived.Test.YtekenddkoahjgaaHZc
import Derived.Test.YtekenddkoahjgaaHQx5
import Derived.Test.YtekenddkoahjgaaHQx10
namespace Go.Proofs.Ytekenddkoahjgaa.Q
open Go.RowKit Go.Proofs.YtekenddkoahjgaaW.PrintWords Go.Proofs.YtekenddkoahjgaaW.PrintLast Go.Proofs.YtekenddkoahjgaaW.PrintMore
attribute [local go_sem] max2_int min2_int max_two min_two max_three min_three max_four min_four
attribute [local go_sem] imax_u32 imax_u8 isg_u32 isg_u8
set_option linter.unusedVariables false
set_option linter.unusedSimpArgs false
def r02_Form.f (a0 : Int) : Option (Int) := if a0 < 0 then (some 0) else ((r02_forms.f).bind fun t128 => (if a0 ≥ (t128.size : Int) then (some 0) else ((r02_forms.f).bind fun t129 => (if 0 ≤ a0 then (if a0 < (t129.size : Int) then (some (bt t129 a0)) else (none)) else (none)))))
set_option maxHeartbeats 8000000 in
set_option maxRecDepth 100000 in
theorem r02_Form.calls (a0 : Int) (r : Int) (w : World) (h : r02_Form.f a0 = some r) :
  Calls Try.prog 31 #[.int .i64 a0] w fun e w' => e = .returned (.int .u8 r) ∧ Drawn0 w w' := by
 have H : (if a0 < 0 then (some 0) else ((r02_forms.f).bind fun t128 => (if a0 ≥ (t128.size : Int) then (some 0) else ((r02_forms.f).bind fun t129 => (if 0 ≤ a0 then (if a0 < (t129.size : Int) then (some (bt t129 a0)) else (none)) else (none)))))) = some r := h
 clear h
 by_cases c2 : a0 < 0
 ·rw [if_pos c2] at H
  have c2b0 : decide (a0 < 0) = true := decide_eq_true c2
  clear c2
  obtain rfl := Option.some.inj H
  go_enter Try.func31, Try.ntmps31
  go_wp2
  go_ret
  exact ⟨zzh, zzd⟩
 ·rw [if_neg c2] at H
  have c2b0 : decide (a0 < 0) = false := decide_eq_false c2
  clear c2
  replace H := Option.bind_eq_some_iff.mp H
  obtain ⟨t128, A30, H⟩ := H
  replace H : (if a0 ≥ (t128.size : Int) then (some 0) else ((r02_forms.f).bind fun t129 => (if 0 ≤ a0 then (if a0 < (t129.size : Int) then (some (bt t129 a0)) else (none)) else (none)))) = some r := H
  have A3 := zz A30
  clear A30
  by_cases c4 : a0 ≥ (t128.size : Int)
  ·rw [if_pos c4] at H
   have c4b0 : decide ((t128.size : Int) ≤ a0) = true := decide_eq_true c4
   clear c4
   obtain rfl := Option.some.inj H
   go_enter Try.func31, Try.ntmps31
   go_wp2_with (first | (go_at_call 55; (with_reducible refine (r02_forms.calls  t128 _ A3.out).mono ?_); rintro e w' ⟨rfl, ⟨nd, rfl⟩⟩))
   go_ret
   exact ⟨zzh, zzd⟩
  ·rw [if_neg c4] at H
   have c4b0 : decide ((t128.size : Int) ≤ a0) = false := decide_eq_false c4
   clear c4
   replace H := Option.bind_eq_some_iff.mp H
   obtain ⟨t129, A50, H⟩ := H
   replace H : (if 0 ≤ a0 then (if a0 < (t129.size : Int) then (some (bt t129 a0)) else (none)) else (none)) = some r := H
   have A5 := zz A50
   clear A50
   by_cases c6 : 0 ≤ a0
   ·rw [if_pos c6] at H
    have c6b0 : decide (0 ≤ a0) = true := decide_eq_true c6
    clear c6
    by_cases c7 : a0 < (t129.size : Int)
    ·rw [if_pos c7] at H
     have c7b0 : decide (a0 < (t129.size : Int)) = true := decide_eq_true c7
     clear c7
     obtain rfl := Option.some.inj H
     go_enter Try.func31, Try.ntmps31
     go_wp2_with (first | (go_at_call 55; (with_reducible refine (r02_forms.calls  t128 _ A3.out).mono ?_); rintro e w' ⟨rfl, ⟨nd, rfl⟩⟩) | ((with_reducible refine gate_callee (f := 55) rfl ?_); refine goesL_ (some 11) rfl rfl Try.func55 (by kernel_rfl) rfl #[] rfl zza ?_; (with_reducible refine (r02_forms.calls  t129 _ A5.out).mono ?_); rintro e w' ⟨rfl, ⟨nd, rfl⟩⟩; refine ⟨_, rfl, ?_⟩; have p8 : 0 ≤ (a0 : Int) := of_decide_eq_true zzm; have q8 : a0 < (t129.size : Int) := of_decide_eq_true zzm; have hx8 := bt_at t129 a0; replace p8 := eq_true p8; replace q8 := eq_true q8))
     go_ret
     exact ⟨zzh, zzd⟩
    ·rw [if_neg c7] at H
     exact absurd H (by simp)
   ·rw [if_neg c6] at H
    exact absurd H (by simp)
def r02_span.j0 : Nat → Int → Bool → Option (Int × Int × Int)
 | 0, _, _ => none
 | k + 1, x5, x10 => if x10 = true then (some ((-2048), 2047, 1)) else (if x5 = 66 then (some ((-4096), 4094, 2)) else (if x5 = 72 then (some (0, 31, 1)) else (some (0, 0, 1))))
def r02_span.f (k : Nat) (a0 : Int) : Option (Int × Int × Int) := if a0 = 85 then (some (0, 1048575, 1)) else (if a0 = 74 then (some ((-1048576), 1048574, 2)) else (if a0 = 73 then (r02_span.j0 k a0 (a0 == 73)) else (r02_span.j0 k a0 (a0 == 83))))
theorem r02_span.mono_l : ∀ k, (∀ y0 y1, LeO (r02_span.j0 k y0 y1) (r02_span.j0 (k + 1) y0 y1))
 | 0 => fun _ _ r h => by simp [r02_span.j0] at h
 | k + 1 => by
  have ih0 := r02_span.mono_l k
  ·intro y0 y1
   unfold r02_span.j0
   repeat' first
   | (with_reducible exact ih0 _ _)
   | (with_reducible exact LeO.refl _)
   | (with_reducible exact LeO.none _)
   | (with_reducible refine LeO.ite ?_ ?_)
   | (with_reducible refine LeO.bind ?_ (fun _ => ?_))
   | exact ih0 _ _
   | exact LeO.none _
   | refine LeO.ite ?_ ?_
   | refine LeO.bind ?_ (fun _ => ?_)
theorem r02_span.mono : ∀ a0 k, LeO (r02_span.f k a0) (r02_span.f (k + 1) a0) := by
 intro a0 k
 have ih0 := r02_span.mono_l k
 unfold r02_span.f
 repeat' first
   | (with_reducible exact ih0 _ _)
   | (with_reducible exact LeO.refl _)
   | (with_reducible exact LeO.none _)
   | (with_reducible refine LeO.ite ?_ ?_)
   | (with_reducible refine LeO.bind ?_ (fun _ => ?_))
   | exact ih0 _ _
   | exact LeO.none _
   | refine LeO.ite ?_ ?_
   | refine LeO.bind ?_ (fun _ => ?_)
set_option maxHeartbeats 8000000 in
set_option maxRecDepth 100000 in
theorem r02_span.calls (k : Nat) (a0 : Int) (r1 : Int) (r2 : Int) (r3 : Int) (w : World) (h : r02_span.f k a0 = some (r1, r2, r3)) :
  Calls Try.prog 52 #[.int .u8 a0] w fun e w' => e = .returned (.tuple #[.int .i64 r1, .int .i64 r2, .int .i64 r3]) ∧ Drawn0 w w' := by
 have H : (if a0 = 85 then (some (0, 1048575, 1)) else (if a0 = 74 then (some ((-1048576), 1048574, 2)) else (if a0 = 73 then (r02_span.j0 k a0 (a0 == 73)) else (r02_span.j0 k a0 (a0 == 83))))) = some (r1, r2, r3) := h
 clear h
 by_cases c2 : a0 = 85
 ·rw [if_pos c2] at H
  have c2b0 : (a0 == 85) = true := beq_iff_eq.mpr c2
  have c2b1 : (a0 != 85) = false := bne_eq_false_iff_eq.mpr c2
  clear c2
  simp only [Option.some.injEq, Prod.mk.injEq] at H
  obtain ⟨rfl, rfl, rfl⟩ := H
  go_enter Try.func52, Try.ntmps52
  go_wp2
  go_ret3
  exact ⟨zzh, zzd⟩
 ·rw [if_neg c2] at H
  have c2b0 : (a0 == 85) = false := beq_eq_false_iff_ne.mpr c2
  have c2b1 : (a0 != 85) = true := bne_iff_ne.mpr c2
  by_cases c3 : a0 = 74
  ·rw [if_pos c3] at H
   have c3b0 : (a0 == 74) = true := beq_iff_eq.mpr c3
   have c3b1 : (a0 != 74) = false := bne_eq_false_iff_eq.mpr c3
   clear c3
   simp only [Option.some.injEq, Prod.mk.injEq] at H
   obtain ⟨rfl, rfl, rfl⟩ := H
   go_enter Try.func52, Try.ntmps52
   go_wp2
   go_ret3
   exact ⟨zzh, zzd⟩
  ·rw [if_neg c3] at H
   have c3b0 : (a0 == 74) = false := beq_eq_false_iff_ne.mpr c3
   have c3b1 : (a0 != 74) = true := bne_iff_ne.mpr c3
   have HC4 := zz H
   clear H
   go_enter Try.func52, Try.ntmps52
   go_upto_if 10 with (fail)
   go_cut [10] (fun v10 wc => ∃ (kq : Nat) (x10_3 : Bool), v10 = .bool x10_3 ∧ Aside0 (r02_span.j0 kq a0 x10_3 = some (r1, r2, r3)) ∧ Aside0 (kq ≤ k) ∧ Drawn0 w wc)
   case first =>
    have H := HC4.out
    clear HC4
    by_cases c5 : a0 = 73
    ·rw [if_pos c5] at H
     have c5b0 : (a0 == 73) = true := beq_iff_eq.mpr c5
     have c5b1 : (a0 != 73) = false := bne_eq_false_iff_eq.mpr c5
     clear c5
     (first | rw [c5b0] | (simp only [i64_w, i32_w]; rw [c5b0]) | skip)
     have H' := zz H
     clear H
     go_wp2
     go_meet
     case rel => exact ⟨_, ((a0 == 73)), (zzh), H', ⟨by first | omega | exact Nat.le_refl _⟩, zzd⟩
    ·rw [if_neg c5] at H
     have c5b0 : (a0 == 73) = false := beq_eq_false_iff_ne.mpr c5
     have c5b1 : (a0 != 73) = true := bne_iff_ne.mpr c5
     (first | rw [c5b0] | (simp only [i64_w, i32_w]; rw [c5b0]) | skip)
     have H' := zz H
     clear H
     go_wp2
     go_meet
     case rel => exact ⟨_, ((a0 == 83)), (zzh), H', ⟨by first | omega | exact Nat.le_refl _⟩, zzd⟩
   case rest =>
    clear HC4
    try clear c2
    try clear c2b0
    try clear c2b1
    try clear p2
    try clear c3
    try clear c3b0
    try clear c3b1
    try clear c5
    try clear c5b0
    try clear c5b1
    obtain ⟨kq, x10_3, rfl, HA, HJ3, ⟨mc3, rfl⟩⟩ := hcut
    cases kq with
    | zero => exact absurd HA.out (by simp [r02_span.j0])
    | succ kj3 =>
     have H := HA.out
     clear HA
     simp only [r02_span.j0] at H
     by_cases c6 : x10_3 = true
     ·subst c6
      have H1 : (some ((-2048), 2047, 1)) = some (r1, r2, r3) := by rw [if_pos rfl] at H; exact H
      clear H
      have H := H1
      clear H1
      simp only [Option.some.injEq, Prod.mk.injEq] at H
      obtain ⟨rfl, rfl, rfl⟩ := H
      go_wp2
      go_ret3
      exact ⟨zzh, zzd⟩
     ·replace c6 := Bool.eq_false_iff.mpr c6
      subst c6
      have H1 : (if a0 = 66 then (some ((-4096), 4094, 2)) else (if a0 = 72 then (some (0, 31, 1)) else (some (0, 0, 1)))) = some (r1, r2, r3) := by rw [if_neg (show ¬ (false = true) by decide)] at H; exact H
      clear H
      have H := H1
      clear H1
      by_cases c7 : a0 = 66
      ·rw [if_pos c7] at H
       have c7b0 : (a0 == 66) = true := beq_iff_eq.mpr c7
       have c7b1 : (a0 != 66) = false := bne_eq_false_iff_eq.mpr c7
       clear c7
       simp only [Option.some.injEq, Prod.mk.injEq] at H
       obtain ⟨rfl, rfl, rfl⟩ := H
       go_wp2
       go_ret3
       exact ⟨zzh, zzd⟩
      ·rw [if_neg c7] at H
       have c7b0 : (a0 == 66) = false := beq_eq_false_iff_ne.mpr c7
       have c7b1 : (a0 != 66) = true := bne_iff_ne.mpr c7
       by_cases c8 : a0 = 72
       ·rw [if_pos c8] at H
        have c8b0 : (a0 == 72) = true := beq_iff_eq.mpr c8
        have c8b1 : (a0 != 72) = false := bne_eq_false_iff_eq.mpr c8
        clear c8
        simp only [Option.some.injEq, Prod.mk.injEq] at H
        obtain ⟨rfl, rfl, rfl⟩ := H
        go_wp2
        go_ret3
        exact ⟨zzh, zzd⟩
       ·rw [if_neg c8] at H
        have c8b0 : (a0 == 72) = false := beq_eq_false_iff_ne.mpr c8
        have c8b1 : (a0 != 72) = true := bne_iff_ne.mpr c8
        simp only [Option.some.injEq, Prod.mk.injEq] at H
        obtain ⟨rfl, rfl, rfl⟩ := H
        go_wp2
        go_ret3
        exact ⟨zzh, zzd⟩
def r02_reg.f (a0 : Int) (a1 : Bool) : Option (Bool) := if a0 = 0 then (some true) else (if a1 = true then (if a0 > 0 then (some (decide (a0 < 32))) else (some false)) else (some false))
set_option maxHeartbeats 8000000 in
set_option maxRecDepth 100000 in
theorem r02_reg.calls (a0 : Int) (a1 : Bool) (r : Bool) (w : World) (h : r02_reg.f a0 a1 = some r) :
  Calls Try.prog 53 #[.int .i64 a0, .bool a1] w fun e w' => e = .returned (.bool r) ∧ Drawn0 w w' := by
 have H : (if a0 = 0 then (some true) else (if a1 = true then (if a0 > 0 then (some (decide (a0 < 32))) else (some false)) else (some false))) = some r := h
 clear h
 by_cases c3 : a0 = 0
 ·rw [if_pos c3] at H
  have c3b0 : (a0 == 0) = true := beq_iff_eq.mpr c3
  have c3b1 : (a0 != 0) = false := bne_eq_false_iff_eq.mpr c3
  clear c3
  obtain rfl := Option.some.inj H
  go_enter Try.func53, Try.ntmps53
  go_wp2
  go_ret
  exact ⟨zzh, zzd⟩
 ·rw [if_neg c3] at H
  have c3b0 : (a0 == 0) = false := beq_eq_false_iff_ne.mpr c3
  have c3b1 : (a0 != 0) = true := bne_iff_ne.mpr c3
  by_cases c4 : a1 = true
  ·subst c4
   have H1 : (if a0 > 0 then (some (decide (a0 < 32))) else (some false)) = some r := by rw [if_pos rfl] at H; exact H
   clear H
   have H := H1
   clear H1
   by_cases c5 : a0 > 0
   ·rw [if_pos c5] at H
    have c5b0 : decide (0 < a0) = true := decide_eq_true c5
    clear c5
    obtain rfl := Option.some.inj H
    go_enter Try.func53, Try.ntmps53
    go_wp2
    go_ret
    exact ⟨zzh, zzd⟩
   ·rw [if_neg c5] at H
    have c5b0 : decide (0 < a0) = false := decide_eq_false c5
    clear c5
    obtain rfl := Option.some.inj H
    go_enter Try.func53, Try.ntmps53
    go_wp2
    go_ret
    exact ⟨zzh, zzd⟩
  ·replace c4 := Bool.eq_false_iff.mpr c4
   subst c4
   have H1 : (some false) = some r := by rw [if_neg (show ¬ (false = true) by decide)] at H; exact H
   clear H
   have H := H1
   clear H1
   obtain rfl := Option.some.inj H
   go_enter Try.func53, Try.ntmps53
   go_wp2
   go_ret
   exact ⟨zzh, zzd⟩
def r02_in.l0 : Nat → Int → ByteArray → Int → Option (Bool)
 | 0, _, _, _ => none
 | k + 1, x0, x1, x5 => if x5 < (x1.size : Int) then (if 0 ≤ x5 then (if (bt x1 x5) = x0 then (some true) else (r02_in.l0 k x0 x1 (wrap64 (x5 + 1)))) else (none)) else (some false)
def r02_in.f (k : Nat) (a0 : Int) (a1 : ByteArray) : Option (Bool) := r02_in.l0 k a0 a1 0
theorem r02_in.mono_l : ∀ k, (∀ y0 y1 y2, LeO (r02_in.l0 k y0 y1 y2) (r02_in.l0 (k + 1) y0 y1 y2))
 | 0 => fun _ _ _ r h => by simp [r02_in.l0] at h
 | k + 1 => by
  have ih0 := r02_in.mono_l k
  ·intro y0 y1 y2
   unfold r02_in.l0
   repeat' first
   | (with_reducible exact ih0 _ _ _)
   | (with_reducible exact LeO.refl _)
   | (with_reducible exact LeO.none _)
   | (with_reducible refine LeO.ite ?_ ?_)
   | (with_reducible refine LeO.bind ?_ (fun _ => ?_))
   | exact ih0 _ _ _
   | exact LeO.none _
   | refine LeO.ite ?_ ?_
   | refine LeO.bind ?_ (fun _ => ?_)
theorem r02_in.mono : ∀ a0 a1 k, LeO (r02_in.f k a0 a1) (r02_in.f (k + 1) a0 a1) := by
 intro a0 a1 k
 have ih0 := r02_in.mono_l k
 unfold r02_in.f
 repeat' first
   | (with_reducible exact ih0 _ _ _)
   | (with_reducible exact LeO.refl _)
   | (with_reducible exact LeO.none _)
   | (with_reducible refine LeO.ite ?_ ?_)
   | (with_reducible refine LeO.bind ?_ (fun _ => ?_))
   | exact ih0 _ _ _
   | exact LeO.none _
   | refine LeO.ite ?_ ?_
   | refine LeO.bind ?_ (fun _ => ?_)
set_option maxHeartbeats 8000000 in
set_option maxRecDepth 100000 in
theorem r02_in.calls (k : Nat) (a0 : Int) (a1 : ByteArray) (r : Bool) (w : World) (h : r02_in.f k a0 a1 = some r) :
  Calls Try.prog 54 #[.int .u8 a0, .string a1] w fun e w' => e = .returned (.bool r) ∧ Drawn0 w w' := by
 have H : (r02_in.l0 k a0 a1 0) = some r := h
 clear h
 have H' := zz H
 clear H
 go_enter Try.func54, Try.ntmps54
 go_wp2
 go_loopg [5] k (fun kq v5 w' => ∃ (x5_1 : Int), v5 = .int .i64 x5_1 ∧ Aside0 (r02_in.l0 kq a0 a1 x5_1 = some r) ∧ Aside0 (kq ≤ k) ∧ Drawn0 w w')
 case atStart => exact ⟨(0), (zzh), H', ⟨Nat.le_refl _⟩, zzd⟩
 case round =>
  clear H'
  try clear p2
  obtain ⟨x5_1, rfl, HA, HK1, ⟨m1, rfl⟩⟩ := hrel
  cases gk with
  | zero => exact absurd HA.out (by simp [r02_in.l0])
  | succ k1 =>
   have H := HA.out
   clear HA
   simp only [r02_in.l0] at H
   by_cases c3 : x5_1 < (a1.size : Int)
   ·rw [if_pos c3] at H
    have c3b0 : decide (x5_1 < (a1.size : Int)) = true := decide_eq_true c3
    clear c3
    by_cases c4 : 0 ≤ x5_1
    ·rw [if_pos c4] at H
     have c4b0 : decide (0 ≤ x5_1) = true := decide_eq_true c4
     clear c4
     by_cases c6 : (bt a1 x5_1) = a0
     ·rw [if_pos c6] at H
      have c6b0 : ((bt a1 x5_1) == a0) = true := beq_iff_eq.mpr c6
      have c6b1 : ((bt a1 x5_1) != a0) = false := bne_eq_false_iff_eq.mpr c6
      clear c6
      obtain rfl := Option.some.inj H
      have p5 : 0 ≤ (x5_1 : Int) := of_decide_eq_true zzm
      have q5 : x5_1 < (a1.size : Int) := of_decide_eq_true zzm
      have hx5 := bt_at a1 x5_1
      replace p5 := eq_true p5
      replace q5 := eq_true q5
      go_wp2
      go_ret
      exact ⟨zzh, zzd⟩
     ·rw [if_neg c6] at H
      have c6b0 : ((bt a1 x5_1) == a0) = false := beq_eq_false_iff_ne.mpr c6
      have c6b1 : ((bt a1 x5_1) != a0) = true := bne_iff_ne.mpr c6
      have H' := zz H
      clear H
      have p5 : 0 ≤ (x5_1 : Int) := of_decide_eq_true zzm
      have q5 : x5_1 < (a1.size : Int) := of_decide_eq_true zzm
      have hx5 := bt_at a1 x5_1
      replace p5 := eq_true p5
      replace q5 := eq_true q5
      go_wp2
      go_roundg k1
      case measure => have := HK1.out; omega
      case rel => exact ⟨(wrap64 (x5_1 + 1)), (zzh), H', ⟨by have := HK1.out; omega⟩, zzd⟩
    ·rw [if_neg c4] at H
     exact absurd H (by simp)
   ·rw [if_neg c3] at H
    have c3b0 : decide (x5_1 < (a1.size : Int)) = false := decide_eq_false c3
    clear c3
    obtain rfl := Option.some.inj H
    go_wp2
    go_ret
    exact ⟨zzh, zzd⟩
def r02_Right.f (k : Nat) (a0 a1 a2 a3 a4 : Int) : Option (Bool) := (r02_Form.f a0).bind fun t1 => (r02_span.f k t1).bind fun t2 => if t1 = 0 then some false else (r02_in.f k t1 (⟨#[85, 74, 73, 72, 82]⟩ : ByteArray)).bind fun b1 => (r02_reg.f a1 b1).bind fun c1 => if c1 = true then (r02_in.f k t1 (⟨#[73, 72, 66, 83, 82]⟩ : ByteArray)).bind fun b2 => (r02_reg.f a2 b2).bind fun c2 => if c2 = true then (r02_in.f k t1 (⟨#[66, 83, 82]⟩ : ByteArray)).bind fun b3 => (r02_reg.f a3 b3).bind fun c3 => if c3 = true then if a4 ≥ t2.1 then if a4 ≤ t2.2.1 then if t2.2.2 = 0 then none else some ((Int.tmod a4 t2.2.2) == 0) else some false else some false else some false else some false else some false
theorem r02_Right.mono : ∀ a0 a1 a2 a3 a4 k, LeO (r02_Right.f k a0 a1 a2 a3 a4) (r02_Right.f (k + 1) a0 a1 a2 a3 a4) := by
 intro a0 a1 a2 a3 a4 k
 unfold r02_Right.f
 repeat' first
   | (with_reducible exact r02_in.mono _ _ _)
   | (with_reducible exact r02_span.mono _ _)
   | (with_reducible exact LeO.refl _)
   | (with_reducible exact LeO.none _)
   | (with_reducible refine LeO.ite ?_ ?_)
   | (with_reducible refine LeO.bind ?_ (fun _ => ?_))
theorem quietA {P : Program} {f : FuncId} {args : Array Value} {w : World} {a n : Nat} {v : Value} (h : Calls P f args (w.drewN (a + n)) fun e w' => e = .returned v ∧ Drawn0 (w.drewN (a + n)) w') : Calls P f args (w.drewN (a + n)) fun e w'' => e = .returned v ∧ ∃ m, w'' = w.drewN (a + m) :=
 h.mono fun _ _ ⟨he, ⟨m, hm⟩⟩ => ⟨he, n + m, by rw [hm, World.drewN_drewN, Nat.add_assoc]⟩
theorem right_below (w : World) (O : Obj) (a : Nat) : Below w.heap.size w ((w.alloc O).drewN a) := pw_below_drewN (below_alloc (Below.refl _ _) O) a
set_option maxHeartbeats 3200000 in
set_option maxRecDepth 100000 in
theorem r02_Right.calls (k : Nat) (a0 a1 a2 a3 a4 : Int) (r : Bool) (w : World) (h : r02_Right.f k a0 a1 a2 a3 a4 = some r) :
  Calls Try.prog 30 #[.agg #[.int .i64 a0, .int .i64 a1, .int .i64 a2, .int .i64 a3, .int .i64 a4]] w fun e w' => e = .returned (.bool r) ∧ Below w.heap.size w w' := by
 have hu24 := Try.underlying23
 unfold r02_Right.f at h
 obtain ⟨t1, A1, h⟩ := Option.bind_eq_some_iff.mp h
 obtain ⟨⟨t2, t3, t4⟩, A2, h⟩ := Option.bind_eq_some_iff.mp h
 replace A1 := zz A1
 replace A2 := zz A2
 simp only at h
 by_cases c0 : t1 = 0
 ·rw [if_pos c0] at h
  have d0 : (t1 != 0) = false := bne_eq_false_iff_eq.mpr c0
  clear c0
  obtain rfl := Option.some.inj h
  clear h
  go_enter Try.func30, Try.ntmps30
  go_wp2_with (first | (go_at_call 31; (with_reducible refine (r02_Form.calls _ _ _ A1.out).mono ?_); rintro e w' ⟨rfl, ⟨⟨nd, rfl⟩⟩⟩) | (go_at_call 52; (with_reducible refine (r02_span.calls _ _ _ _ _ _ A2.out).mono ?_); rintro e w' ⟨rfl, ⟨⟨nd2, rfl⟩⟩⟩))
  go_quiet (fail)
  go_wp2
  go_ret
  exact ⟨rfl, pw_below_drewN (right_below _ _ _) _⟩
 rw [if_neg c0] at h
 have d0 : (t1 != 0) = true := bne_iff_ne.mpr c0
 clear c0
 obtain ⟨b1, B1, h⟩ := Option.bind_eq_some_iff.mp h
 obtain ⟨c1, C1, h⟩ := Option.bind_eq_some_iff.mp h
 replace B1 := zz B1
 replace C1 := zz C1
 cases c1
 ·rw [if_neg (by decide)] at h
  obtain rfl := Option.some.inj h
  clear h
  go_enter Try.func30, Try.ntmps30
  go_wp2_with (first | (go_at_call 31; (with_reducible refine (r02_Form.calls _ _ _ A1.out).mono ?_); rintro e w' ⟨rfl, ⟨⟨nd, rfl⟩⟩⟩) | (go_at_call 52; (with_reducible refine (r02_span.calls _ _ _ _ _ _ A2.out).mono ?_); rintro e w' ⟨rfl, ⟨⟨nd2, rfl⟩⟩⟩))
  go_quiet (first | (go_at_call 54; exact quietA (r02_in.calls _ _ _ _ _ B1.out)) | (go_at_call 53; exact quietA (r02_reg.calls _ _ _ _ C1.out)))
  go_wp2
  go_ret
  exact ⟨rfl, pw_below_drewN (right_below _ _ _) _⟩
 rw [if_pos rfl] at h
 obtain ⟨b2, B2, h⟩ := Option.bind_eq_some_iff.mp h
 obtain ⟨c2, C2, h⟩ := Option.bind_eq_some_iff.mp h
 replace B2 := zz B2
 replace C2 := zz C2
 cases c2
 ·rw [if_neg (by decide)] at h
  obtain rfl := Option.some.inj h
  clear h
  go_enter Try.func30, Try.ntmps30
  go_wp2_with (first | (go_at_call 31; (with_reducible refine (r02_Form.calls _ _ _ A1.out).mono ?_); rintro e w' ⟨rfl, ⟨⟨nd, rfl⟩⟩⟩) | (go_at_call 52; (with_reducible refine (r02_span.calls _ _ _ _ _ _ A2.out).mono ?_); rintro e w' ⟨rfl, ⟨⟨nd2, rfl⟩⟩⟩))
  go_quiet (first | (go_at_call 54; exact quietA (r02_in.calls _ _ _ _ _ B1.out)) | (go_at_call 53; exact quietA (r02_reg.calls _ _ _ _ C1.out)) | (go_at_call 54; exact quietA (r02_in.calls _ _ _ _ _ B2.out)) | (go_at_call 53; exact quietA (r02_reg.calls _ _ _ _ C2.out)))
  go_wp2
  go_ret
  exact ⟨rfl, pw_below_drewN (right_below _ _ _) _⟩
 rw [if_pos rfl] at h
 obtain ⟨b3, B3, h⟩ := Option.bind_eq_some_iff.mp h
 obtain ⟨c3, C3, h⟩ := Option.bind_eq_some_iff.mp h
 replace B3 := zz B3
 replace C3 := zz C3
 cases c3
 ·rw [if_neg (by decide)] at h
  obtain rfl := Option.some.inj h
  clear h
  go_enter Try.func30, Try.ntmps30
  go_wp2_with (first | (go_at_call 31; (with_reducible refine (r02_Form.calls _ _ _ A1.out).mono ?_); rintro e w' ⟨rfl, ⟨⟨nd, rfl⟩⟩⟩) | (go_at_call 52; (with_reducible refine (r02_span.calls _ _ _ _ _ _ A2.out).mono ?_); rintro e w' ⟨rfl, ⟨⟨nd2, rfl⟩⟩⟩))
  go_quiet (first | (go_at_call 54; exact quietA (r02_in.calls _ _ _ _ _ B1.out)) | (go_at_call 53; exact quietA (r02_reg.calls _ _ _ _ C1.out)) | (go_at_call 54; exact quietA (r02_in.calls _ _ _ _ _ B2.out)) | (go_at_call 53; exact quietA (r02_reg.calls _ _ _ _ C2.out)) | (go_at_call 54; exact quietA (r02_in.calls _ _ _ _ _ B3.out)) | (go_at_call 53; exact quietA (r02_reg.calls _ _ _ _ C3.out)))
  go_wp2
  go_ret
  exact ⟨rfl, pw_below_drewN (right_below _ _ _) _⟩
 rw [if_pos rfl] at h
 by_cases c5 : a4 ≥ t2
 rotate_left
 ·rw [if_neg c5] at h
  have d5 : decide (t2 ≤ a4) = false := decide_eq_false c5
  clear c5
  obtain rfl := Option.some.inj h
  clear h
  go_enter Try.func30, Try.ntmps30
  go_wp2_with (first | (go_at_call 31; (with_reducible refine (r02_Form.calls _ _ _ A1.out).mono ?_); rintro e w' ⟨rfl, ⟨⟨nd, rfl⟩⟩⟩) | (go_at_call 52; (with_reducible refine (r02_span.calls _ _ _ _ _ _ A2.out).mono ?_); rintro e w' ⟨rfl, ⟨⟨nd2, rfl⟩⟩⟩))
  go_quiet (first | (go_at_call 54; exact quietA (r02_in.calls _ _ _ _ _ B1.out)) | (go_at_call 53; exact quietA (r02_reg.calls _ _ _ _ C1.out)) | (go_at_call 54; exact quietA (r02_in.calls _ _ _ _ _ B2.out)) | (go_at_call 53; exact quietA (r02_reg.calls _ _ _ _ C2.out)) | (go_at_call 54; exact quietA (r02_in.calls _ _ _ _ _ B3.out)) | (go_at_call 53; exact quietA (r02_reg.calls _ _ _ _ C3.out)))
  go_wp2
  go_ret
  exact ⟨rfl, pw_below_drewN (right_below _ _ _) _⟩
 rw [if_pos c5] at h
 have d5 : decide (t2 ≤ a4) = true := decide_eq_true c5
 clear c5
 by_cases c6 : a4 ≤ t3
 rotate_left
 ·rw [if_neg c6] at h
  have d6 : decide (a4 ≤ t3) = false := decide_eq_false c6
  clear c6
  obtain rfl := Option.some.inj h
  clear h
  go_enter Try.func30, Try.ntmps30
  go_wp2_with (first | (go_at_call 31; (with_reducible refine (r02_Form.calls _ _ _ A1.out).mono ?_); rintro e w' ⟨rfl, ⟨⟨nd, rfl⟩⟩⟩) | (go_at_call 52; (with_reducible refine (r02_span.calls _ _ _ _ _ _ A2.out).mono ?_); rintro e w' ⟨rfl, ⟨⟨nd2, rfl⟩⟩⟩))
  go_quiet (first | (go_at_call 54; exact quietA (r02_in.calls _ _ _ _ _ B1.out)) | (go_at_call 53; exact quietA (r02_reg.calls _ _ _ _ C1.out)) | (go_at_call 54; exact quietA (r02_in.calls _ _ _ _ _ B2.out)) | (go_at_call 53; exact quietA (r02_reg.calls _ _ _ _ C2.out)) | (go_at_call 54; exact quietA (r02_in.calls _ _ _ _ _ B3.out)) | (go_at_call 53; exact quietA (r02_reg.calls _ _ _ _ C3.out)))
  go_wp2
  go_ret
  exact ⟨rfl, pw_below_drewN (right_below _ _ _) _⟩
 rw [if_pos c6] at h
 have d6 : decide (a4 ≤ t3) = true := decide_eq_true c6
 clear c6
 by_cases c7 : t4 = 0
 ·rw [if_pos c7] at h
  cases h
 rw [if_neg c7] at h
 obtain rfl := Option.some.inj h
 clear h
 have d7 : (t4 == 0) = false := beq_eq_false_iff_ne.mpr c7
 go_enter Try.func30, Try.ntmps30
 go_wp2_with (first | (go_at_call 31; (with_reducible refine (r02_Form.calls _ _ _ A1.out).mono ?_); rintro e w' ⟨rfl, ⟨⟨nd, rfl⟩⟩⟩) | (go_at_call 52; (with_reducible refine (r02_span.calls _ _ _ _ _ _ A2.out).mono ?_); rintro e w' ⟨rfl, ⟨⟨nd2, rfl⟩⟩⟩))
 go_quiet (first | (go_at_call 54; exact quietA (r02_in.calls _ _ _ _ _ B1.out)) | (go_at_call 53; exact quietA (r02_reg.calls _ _ _ _ C1.out)) | (go_at_call 54; exact quietA (r02_in.calls _ _ _ _ _ B2.out)) | (go_at_call 53; exact quietA (r02_reg.calls _ _ _ _ C2.out)) | (go_at_call 54; exact quietA (r02_in.calls _ _ _ _ _ B3.out)) | (go_at_call 53; exact quietA (r02_reg.calls _ _ _ _ C3.out)))
 go_wp2
 go_ret
 exact ⟨rfl, pw_below_drewN (right_below _ _ _) _⟩
def r01_Bit.f (a0 : Int) (a1 : Int) : Option (Int) := if a1 < 0 then (some 0) else (if a1 > 31 then (some 0) else (if 0 ≤ a1 then (some (Go.bits .and .u32 (shr .u32 a0 a1) 1)) else (none)))
set_option maxHeartbeats 8000000 in
set_option maxRecDepth 100000 in
theorem r01_Bit.calls (a0 : Int) (a1 : Int) (r : Int) (w : World) (h : r01_Bit.f a0 a1 = some r) :
  Calls Try.prog 81 #[.int .u32 a0, .int .i64 a1] w fun e w' => e = .returned (.int .u32 r) ∧ Drawn0 w w' := by
 have H : (if a1 < 0 then (some 0) else (if a1 > 31 then (some 0) else (if 0 ≤ a1 then (some (Go.bits .and .u32 (shr .u32 a0 a1) 1)) else (none)))) = some r := h
 clear h
 by_cases c3 : a1 < 0
 ·rw [if_pos c3] at H
  have c3b0 : decide (a1 < 0) = true := decide_eq_true c3
  clear c3
  obtain rfl := Option.some.inj H
  go_enter Try.func81, Try.ntmps81
  go_wp2
  go_ret
  exact ⟨zzh, zzd⟩
 ·rw [if_neg c3] at H
  have c3b0 : decide (a1 < 0) = false := decide_eq_false c3
  clear c3
  by_cases c4 : a1 > 31
  ·rw [if_pos c4] at H
   have c4b0 : decide (31 < a1) = true := decide_eq_true c4
   clear c4
   obtain rfl := Option.some.inj H
   go_enter Try.func81, Try.ntmps81
   go_wp2
   go_ret
   exact ⟨zzh, zzd⟩
  ·rw [if_neg c4] at H
   have c4b0 : decide (31 < a1) = false := decide_eq_false c4
   clear c4
   by_cases c5 : 0 ≤ a1
   ·rw [if_pos c5] at H
    have c5b0 := eq_true c5
    have c5b1 : decide (0 ≤ a1) = true := decide_eq_true c5
    clear c5
    obtain ⟨ji6, hji6⟩ : ∃ j_ : Int, (shr .u32 a0 a1) = j_ := ⟨_, rfl⟩
    replace H : (some (Go.bits .and .u32 (ji6) 1)) = some r := by first | (rw [hji6] at H; exact H) | (simp only [hji6] at H ⊢; exact H)
    have hji6_ : (a0 / 2 ^ min a1.toNat 32) = ji6 := hji6
    have hji6z : a1 ≤ 32 → (a0 / 2 ^ a1.toNat) = ji6 := shr_small hji6
    obtain rfl := Option.some.inj H
    go_enter Try.func81, Try.ntmps81
    go_wp2
    go_ret
    exact ⟨by first | rfl | (simp; done) | (simp only [← hji6] <;> (first | rfl | simp)) | (simp [*]; done), zzd⟩
   ·rw [if_neg c5] at H
    exact absurd H (by simp)
def r01_may.f (a0 : Int) (a1 : Int) : Option (Bool) := if a0 ≥ 0 then (if a0 ≤ 31 then (if a1 ≥ 1 then (if a1 ≤ 32 then (some (decide ((wrap64 (a0 + a1)) ≤ 32))) else (some false)) else (some false)) else (some false)) else (some false)
set_option maxHeartbeats 8000000 in
set_option maxRecDepth 100000 in
theorem r01_may.calls (a0 : Int) (a1 : Int) (r : Bool) (w : World) (h : r01_may.f a0 a1 = some r) :
  Calls Try.prog 95 #[.int .i64 a0, .int .i64 a1] w fun e w' => e = .returned (.bool r) ∧ Drawn0 w w' := by
 have H : (if a0 ≥ 0 then (if a0 ≤ 31 then (if a1 ≥ 1 then (if a1 ≤ 32 then (some (decide ((wrap64 (a0 + a1)) ≤ 32))) else (some false)) else (some false)) else (some false)) else (some false)) = some r := h
 clear h
 by_cases c3 : a0 ≥ 0
 ·rw [if_pos c3] at H
  have c3b0 : decide (0 ≤ a0) = true := decide_eq_true c3
  clear c3
  by_cases c4 : a0 ≤ 31
  ·rw [if_pos c4] at H
   have c4b0 : decide (a0 ≤ 31) = true := decide_eq_true c4
   clear c4
   by_cases c5 : a1 ≥ 1
   ·rw [if_pos c5] at H
    have c5b0 : decide (1 ≤ a1) = true := decide_eq_true c5
    clear c5
    by_cases c6 : a1 ≤ 32
    ·rw [if_pos c6] at H
     have c6b0 : decide (a1 ≤ 32) = true := decide_eq_true c6
     clear c6
     obtain rfl := Option.some.inj H
     go_enter Try.func95, Try.ntmps95
     go_wp2
     go_ret
     exact ⟨zzh, zzd⟩
    ·rw [if_neg c6] at H
     have c6b0 : decide (a1 ≤ 32) = false := decide_eq_false c6
     clear c6
     obtain rfl := Option.some.inj H
     go_enter Try.func95, Try.ntmps95
     go_wp2
     go_ret
     exact ⟨zzh, zzd⟩
   ·rw [if_neg c5] at H
    have c5b0 : decide (1 ≤ a1) = false := decide_eq_false c5
    clear c5
    obtain rfl := Option.some.inj H
    go_enter Try.func95, Try.ntmps95
    go_wp2
    go_ret
    exact ⟨zzh, zzd⟩
  ·rw [if_neg c4] at H
   have c4b0 : decide (a0 ≤ 31) = false := decide_eq_false c4
   clear c4
   obtain rfl := Option.some.inj H
   go_enter Try.func95, Try.ntmps95
   go_wp2
   go_ret
   exact ⟨zzh, zzd⟩
 ·rw [if_neg c3] at H
  have c3b0 : decide (0 ≤ a0) = false := decide_eq_false c3
  clear c3
  obtain rfl := Option.some.inj H
  go_enter Try.func95, Try.ntmps95
  go_wp2
  go_ret
  exact ⟨zzh, zzd⟩
def r01_Of.l0 : Nat → List Int → Int → Int → Option (Int)
 | 0, _, _, _ => none
 | k + 1, x0, x3, x4 => if x4 ≥ 0 then (if 0 ≤ x4 then (if x4 < (x0.length : Int) then (r01_Of.l0 k x0 (((x3 * 2) + (rd x0 x4)) % 4294967296) (wrap64 (x4 - 1))) else (none)) else (none)) else (some x3)
def r01_Of.f (k : Nat) (l0 : List Int) : Option (Int) := r01_Of.l0 k l0 0 31
set_option maxHeartbeats 8000000 in
set_option maxRecDepth 100000 in
theorem r01_Of.calls (k : Nat) (A0 : Option Addr) (c0 : Nat) (l0 : List Int) (r : Int) (w : World) (hr0 : Kd.C (Kd.int .u32) w A0 l0.length l0) (hc0 : l0.length ≤ c0) (h : r01_Of.f k l0 = some r) :
  Calls Try.prog 96 #[.slice A0 l0.length c0] w fun e w' => e = .returned (.int .u32 r) ∧ Drawn0 w w' := by
 have HR0 := zz hr0
 have HC0 := zz hc0
 clear hr0 hc0
 have H : (r01_Of.l0 k l0 0 31) = some r := h
 clear h
 have H' := zz H
 clear H
 go_enter Try.func96, Try.ntmps96
 go_wp2
 go_loopg [3, 4] k (fun kq v3 v4 w' => ∃ (x3_1 : Int) (x4_1 : Int), v3 = .int .u32 x3_1 ∧ v4 = .int .i64 x4_1 ∧ Aside0 (r01_Of.l0 kq l0 x3_1 x4_1 = some r) ∧ Aside0 (kq ≤ k) ∧ Drawn0 w w')
 case atStart => exact ⟨(0), (31), (zzh), (zzh), H', ⟨Nat.le_refl _⟩, zzd⟩
 case round =>
  clear H'
  obtain ⟨x3_1, x4_1, rfl, rfl, HA, HK1, ⟨m1, rfl⟩⟩ := hrel
  cases gk with
  | zero => exact absurd HA.out (by simp [r01_Of.l0])
  | succ k1 =>
   have H := HA.out
   clear HA
   simp only [r01_Of.l0] at H
   by_cases c2 : x4_1 ≥ 0
   ·rw [if_pos c2] at H
    have c2b0 : decide (0 ≤ x4_1) = true := decide_eq_true c2
    clear c2
    by_cases c3 : 0 ≤ x4_1
    ·rw [if_pos c3] at H
     have c3b0 : decide (0 ≤ x4_1) = true := decide_eq_true c3
     clear c3
     by_cases c4 : x4_1 < (l0.length : Int)
     ·rw [if_pos c4] at H
      have c4b0 : decide (x4_1 < (l0.length : Int)) = true := decide_eq_true c4
      clear c4
      have H' := zz H
      clear H
      have p130 : 0 ≤ (x4_1 : Int) := of_decide_eq_true zzm
      have q130 : x4_1 < (l0.length : Int) := of_decide_eq_true zzm
      obtain ⟨ad130, e130, hx130_0⟩ := Kd.at_int HR0.out x4_1 p130 q130
      cases e130
      replace p130 := eq_true p130
      replace q130 := eq_true q130
      go_wp2
      go_roundg k1
      case measure => have := HK1.out; omega
      case rel => exact ⟨(((x3_1 * 2) + (rd l0 x4_1)) % 4294967296), (wrap64 (x4_1 - 1)), (zzh), (zzh), H', ⟨by have := HK1.out; omega⟩, zzd⟩
     ·rw [if_neg c4] at H
      exact absurd H (by simp)
    ·rw [if_neg c3] at H
     exact absurd H (by simp)
   ·rw [if_neg c2] at H
    have c2b0 : decide (0 ≤ x4_1) = false := decide_eq_false c2
    clear c2
    obtain rfl := Option.some.inj H
    go_wp2
    go_ret
    exact ⟨zzh, zzd⟩
def r01_Field.l0 : Nat → Int → Int → Int → List Int → Int → Option (Int)
 | 0, _, _, _, _, _ => none
 | k + 1, x0, x1, x2, x7, x8 => if x8 < x2 then ((r01_may.f x1 x2).bind fun t134 => (if t134 = true then ((r01_Bit.f x0 (wrap64 (x1 + x8))).bind fun t135 => (if 0 ≤ x8 then (if x8 < (x7.length : Int) then (r01_Field.l0 k x0 x1 x2 (x7.set (x8 : Int).toNat t135) (wrap64 (x8 + 1))) else (none)) else (none))) else ((r01_Of.f k x7).bind fun t137 => (some t137)))) else ((r01_Of.f k x7).bind fun t138 => (some t138))
def r01_Field.f (k : Nat) (a0 : Int) (a1 : Int) (a2 : Int) : Option (Int) := if 32 ≤ 70368744177664 then (r01_Field.l0 k a0 a1 a2 (List.replicate 32 0) 0) else (none)
set_option maxHeartbeats 8000000 in
set_option maxRecDepth 100000 in
theorem r01_Field.calls (k : Nat) (a0 : Int) (a1 : Int) (a2 : Int) (r : Int) (w : World) (h : r01_Field.f k a0 a1 a2 = some r) :
  Calls Try.prog 79 #[.int .u32 a0, .int .i64 a1, .int .i64 a2] w fun e w' => e = .returned (.int .u32 r) ∧ Below w.heap.size w w' := by
 have HB := zz (Below.refl w.heap.size w)
 have H : (if 32 ≤ 70368744177664 then (r01_Field.l0 k a0 a1 a2 (List.replicate 32 0) 0) else (none)) = some r := h
 clear h
 by_cases c4 : 32 ≤ 70368744177664
 ·rw [if_pos c4] at H
  have c4b0 := eq_true c4
  have c4b1 : decide (32 ≤ 70368744177664) = true := decide_eq_true c4
  clear c4
  obtain ⟨y131, hy131⟩ : ∃ y_ : List Int, y_ = (List.replicate 32 0) := ⟨_, rfl⟩
  replace H : (r01_Field.l0 k a0 a1 a2 y131 0) = some r := by first | (rw [hy131]; with_reducible exact H) | (have H2_ := (Option.bind_some _ _).symm.trans H; rw [hy131]; with_reducible exact H2_) | (have H2_ := (Option.bind_some _ _).symm.trans H; with_reducible exact H2_) | with_reducible exact H | (rw [hy131]; exact H) | exact H
  have Ny131 := zz hy131
  clear hy131
  have H' := zz H
  clear H
  go_enter Try.func79, Try.ntmps79
  go_wp2_with (first | ((with_reducible refine gate_dst (N := 9) rfl ?_); refine Kd.R_make (Kd.int .u32) _ 24 rfl (N := 9) rfl 27 _ _ rfl 32 rfl rfl Try.underlying27 (.int .u32 0) 4 info24 rfl (by decide) (by omega) 0 (ok := fun _ => True) (okp := fun _ => True) rfl (fun _ hk => hk) trivial (by omega) (by omega) (Below.refl _ _) (Nat.le_refl _) ?_; intro v132 w5 ho6 hb hg_ hnew_; clear hg_ hnew_; (first | rw [← Ny131.out] at ho6 | (simp only [Int.reduceToNat] at ho6; rw [← Ny131.out] at ho6)); have n0_ := zz (Kd.R_lower ho6 (below_size zzb)); have n1_ := zz (below_step zzb hb); clear HB; have HO133 := n0_; have HB := n1_; clear n0_ n1_; clear hb ho6))
  go_loopg [8] k (fun kq v8 w' => ∃ (x7_1 : List Int) (x8_1 : Int), v8 = .int .i64 x8_1 ∧ Aside0 (r01_Field.l0 kq a0 a1 a2 x7_1 x8_1 = some r) ∧ Aside0 (kq ≤ k) ∧ Aside0 (Kd.R (Kd.int .u32) 24 w' w.heap.size (fun _ => True) v132 x7_1) ∧ Aside0 (Below w.heap.size w w'))
  case atStart => exact ⟨(y131), (0), (zzh), H', ⟨Nat.le_refl _⟩, ⟨by refine zzr ?_; exact HO133.out⟩, ⟨zzg⟩⟩
  case round =>
   clear H'
   try clear p2
   try clear c4
   try clear c4b0
   try clear c4b1
   obtain ⟨x7_1, x8_1, rfl, HA, HK1, HO_7, HB⟩ := hrel
   cases gk with
   | zero => exact absurd HA.out (by simp [r01_Field.l0])
   | succ k1 =>
    have H := HA.out
    clear HA
    simp only [r01_Field.l0] at H
    by_cases c7 : x8_1 < a2
    ·rw [if_pos c7] at H
     have c7b0 : decide (x8_1 < a2) = true := decide_eq_true c7
     clear c7
     replace H := Option.bind_eq_some_iff.mp H
     obtain ⟨t134, A80, H⟩ := H
     replace H : (if t134 = true then ((r01_Bit.f a0 (wrap64 (a1 + x8_1))).bind fun t135 => (if 0 ≤ x8_1 then (if x8_1 < (x7_1.length : Int) then (r01_Field.l0 k1 a0 a1 a2 (x7_1.set (x8_1 : Int).toNat t135) (wrap64 (x8_1 + 1))) else (none)) else (none))) else ((r01_Of.f k1 x7_1).bind fun t137 => (some t137))) = some r := H
     have A8 := zz A80
     clear A80
     by_cases c9 : t134 = true
     ·subst c9
      have H1 : ((r01_Bit.f a0 (wrap64 (a1 + x8_1))).bind fun t135 => (if 0 ≤ x8_1 then (if x8_1 < (x7_1.length : Int) then (r01_Field.l0 k1 a0 a1 a2 (x7_1.set (x8_1 : Int).toNat t135) (wrap64 (x8_1 + 1))) else (none)) else (none))) = some r := by rw [if_pos rfl] at H; exact H
      clear H
      have H := H1
      clear H1
      replace H := Option.bind_eq_some_iff.mp H
      obtain ⟨t135, A100, H⟩ := H
      replace H : (if 0 ≤ x8_1 then (if x8_1 < (x7_1.length : Int) then (r01_Field.l0 k1 a0 a1 a2 (x7_1.set (x8_1 : Int).toNat t135) (wrap64 (x8_1 + 1))) else (none)) else (none)) = some r := H
      have A10 := zz A100
      clear A100
      by_cases c11 : 0 ≤ x8_1
      ·rw [if_pos c11] at H
       have c11b0 : decide (0 ≤ x8_1) = true := decide_eq_true c11
       clear c11
       by_cases c12 : x8_1 < (x7_1.length : Int)
       ·rw [if_pos c12] at H
        have c12b0 : decide (x8_1 < (x7_1.length : Int)) = true := decide_eq_true c12
        clear c12
        obtain ⟨y136, hy136⟩ : ∃ y_ : List Int, y_ = (x7_1.set (x8_1 : Int).toNat t135) := ⟨_, rfl⟩
        replace H : (r01_Field.l0 k1 a0 a1 a2 y136 (wrap64 (x8_1 + 1))) = some r := by first | (rw [hy136]; with_reducible exact H) | (have H2_ := (Option.bind_some _ _).symm.trans H; rw [hy136]; with_reducible exact H2_) | (have H2_ := (Option.bind_some _ _).symm.trans H; with_reducible exact H2_) | with_reducible exact H | (rw [hy136]; exact H) | exact H
        have Ny136 := zz hy136
        clear hy136
        have H' := zz H
        clear H
        go_wp2_with (first | (go_at_call 95; (with_reducible refine (r01_may.calls a1 a2 true _ A8.out).mono ?_); rintro e w' ⟨rfl, ⟨nd, rfl⟩⟩; (try (rw [drewN_self wr]; generalize hq_ : World.drewN wr _ = wr; have n0_ : Aside0 (Kd.R (Kd.int .u32) 24 wr w.heap.size (fun _ => True) v132 x7_1) := ⟨by rw [← hq_]; exact (zzr HO_7.out)⟩; have n1_ : Aside0 (Below w.heap.size w wr) := ⟨by rw [← hq_]; exact zzb⟩; clear HO_7 HB hq_; have HO_7 := n0_; have HB := n1_; clear n0_ n1_))) | ((with_reducible refine gate_callee (f := 81) rfl ?_); refine goesL_ (some 26) rfl rfl Try.func81 (by kernel_rfl) rfl #[.int .u32 a0, .int .i64 (wrap64 (a1 + x8_1))] rfl zza ?_; (with_reducible refine (r01_Bit.calls a0 (wrap64 (a1 + x8_1)) t135 _ A10.out).mono ?_); rintro e w' ⟨rfl, ⟨nd, rfl⟩⟩; refine ⟨_, rfl, ?_⟩; (try (rw [drewN_self wr]; generalize hq_ : World.drewN wr _ = wr; have n0_ : Aside0 (Kd.R (Kd.int .u32) 24 wr w.heap.size (fun _ => True) v132 x7_1) := ⟨by rw [← hq_]; exact (zzr HO_7.out)⟩; have n1_ : Aside0 (Below w.heap.size w wr) := ⟨by rw [← hq_]; exact zzb⟩; clear HO_7 HB hq_; have HO_7 := n0_; have HB := n1_; clear n0_ n1_)); have p13 : 0 ≤ (x8_1 : Int) := of_decide_eq_true zzm; have q13 : (x8_1 : Int) < ((x7_1.length : Int) : Int) := of_decide_eq_true zzm; obtain ⟨go13, co13, eo13, gb13, gl13, cl13, HG13⟩ := Kd.R_form HO_7.out (by omega); (first | cases eo13 | (injection eo13 with ea_ en_ ec_; (first | subst ea_ | (injection ea_ with ea_; subst ea_)); subst ec_; clear en_)); have GB13 := zz gb13; have GG13 := zz HG13; clear gb13 gl13 HG13; obtain ⟨hx13_0, hf13_0⟩ := Kd.R_celln 0 HO_7.out (x8_1 : Int) p13 q13; replace p13 := eq_true p13; replace q13 := eq_true q13; obtain ⟨hy14_, hz14_⟩ := Kd.R_celln 0 HO_7.out (x8_1 : Int) (of_decide_eq_true zzm) (of_decide_eq_true zzm); have HP14 := Kd.R_putg HO_7.out (x8_1 : Int) t135) | ((with_reducible refine gate_store (t := 24) (p := 27) rfl ?_); refine store_event (t := 24) (p := 27) (v := ?vo_w15) (w1 := (wr.setCell ⟨go13, (x8_1 : Int).toNat, none⟩ (.int .u32 t135))) ?hg ?ho ?hn ?hr ?_; (case ho => rfl); (case hg => rfl); (case hn => rfl); (case hr => first | (go_simp; done) | (go_simp; rfl)); intro w15 hw; have hg : wr.grownBy w15 (some go13) := (by rw [hw]; exact HP14.2); have hp_ : Kd.R (Kd.int .u32) 24 w15 w.heap.size (fun _ => True) (.slice (some ⟨go13, 0, none⟩) x7_1.length co13) y136 := (by rw [hw, Ny136.out]; exact HP14.1); clear HP14; have n0_ := zz (hp_); have n1_ := zz ((by rw [hw]; exact below_set (HB.out) GB13.out : Below w.heap.size w w15)); clear HO_7; clear HB; have HO_7 := n0_; have HB := n1_; clear n0_ n1_; clear hg hw hp_))
        go_roundg k1
        case measure => have := HK1.out; omega
        case rel => exact ⟨(y136), (wrap64 (x8_1 + 1)), (zzh), H', ⟨by have := HK1.out; omega⟩, ⟨by refine zzr ?_; exact HO_7.out⟩, ⟨zzg⟩⟩
       ·rw [if_neg c12] at H
        exact absurd H (by simp)
      ·rw [if_neg c11] at H
       exact absurd H (by simp)
     ·replace c9 := Bool.eq_false_iff.mpr c9
      subst c9
      have H1 : ((r01_Of.f k1 x7_1).bind fun t137 => (some t137)) = some r := by rw [if_neg (show ¬ (false = true) by decide)] at H; exact H
      clear H
      have H := H1
      clear H1
      replace H := Option.bind_eq_some_iff.mp H
      obtain ⟨t137, A160, H⟩ := H
      replace H : (some t137) = some r := H
      have A16 := zz A160
      clear A160
      obtain rfl := Option.some.inj H
      go_wp2_with (first | (go_at_call 95; (with_reducible refine (r01_may.calls a1 a2 false _ A8.out).mono ?_); rintro e w' ⟨rfl, ⟨nd, rfl⟩⟩; obtain ⟨Ao17, co17, eo17⟩ := Kd.R_slice HO_7.out; subst eo17) | ((with_reducible refine gate_callee (f := 96) rfl ?_); refine goesL_ (some 29) rfl rfl Try.func96 (by kernel_rfl) rfl #[.slice Ao17 x7_1.length co17] rfl zza ?_; (with_reducible refine (r01_Of.calls k1 _ _ x7_1 t137 _ ?side1 ?side2 A16.out).mono ?_); (case side1 => repeat (first | exact (Kd.R_reads' HO_7.out).2.2 | (with_reducible refine Kd.C_alloc ?_ _) | (with_reducible refine Kd.C_drewN ?_ _) | (with_reducible refine Kd.C_drew ?_))); (case side2 => exact (Kd.R_reads' HO_7.out).2.1); rintro e w' ⟨rfl, ⟨nd, rfl⟩⟩; refine ⟨_, rfl, ?_⟩))
      go_ret
      exact ⟨zze, zzg⟩
    ·rw [if_neg c7] at H
     have c7b0 : decide (x8_1 < a2) = false := decide_eq_false c7
     clear c7
     replace H := Option.bind_eq_some_iff.mp H
     obtain ⟨t138, A180, H⟩ := H
     replace H : (some t138) = some r := H
     have A18 := zz A180
     clear A180
     obtain rfl := Option.some.inj H
     obtain ⟨Ao19, co19, eo19⟩ := Kd.R_slice HO_7.out
     subst eo19
     go_wp2_with (first | ((with_reducible refine gate_callee (f := 96) rfl ?_); refine goesL_ (some 29) rfl rfl Try.func96 (by kernel_rfl) rfl #[.slice Ao19 x7_1.length co19] rfl zza ?_; (with_reducible refine (r01_Of.calls k1 _ _ x7_1 t138 _ ?side1 ?side2 A18.out).mono ?_); (case side1 => repeat (first | exact (Kd.R_reads' HO_7.out).2.2 | (with_reducible refine Kd.C_alloc ?_ _) | (with_reducible refine Kd.C_drewN ?_ _) | (with_reducible refine Kd.C_drew ?_))); (case side2 => exact (Kd.R_reads' HO_7.out).2.1); rintro e w' ⟨rfl, ⟨nd, rfl⟩⟩; refine ⟨_, rfl, ?_⟩))
     go_ret
     exact ⟨zze, zzg⟩
 ·rw [if_neg c4] at H
  exact absurd H (by simp)
def r02_places.f (a0 : Int) : Option (List Int) := if a0 = 85 then (some (([12, 13, 14, 15, 16, 17, 18, 19, 20, 21, 22, 23, 24, 25, 26, 27, 28, 29, 30, 31] : List Int))) else (if a0 = 74 then (some (([(-1), 21, 22, 23, 24, 25, 26, 27, 28, 29, 30, 20, 12, 13, 14, 15, 16, 17, 18, 19, 31] : List Int))) else (if a0 = 73 then (some (([20, 21, 22, 23, 24, 25, 26, 27, 28, 29, 30, 31] : List Int))) else (if a0 = 83 then (some (([7, 8, 9, 10, 11, 25, 26, 27, 28, 29, 30, 31] : List Int))) else (if a0 = 66 then (some (([(-1), 8, 9, 10, 11, 25, 26, 27, 28, 29, 30, 7, 31] : List Int))) else (if a0 = 72 then (some (([20, 21, 22, 23, 24] : List Int))) else (some (([] : List Int))))))))
set_option maxHeartbeats 8000000 in
set_option maxRecDepth 100000 in
theorem r02_places.calls (a0 : Int) (r : List Int) (w : World) (h : r02_places.f a0 = some r) :
  Calls Try.prog 80 #[.int .u8 a0] w fun e w' => ∃ v0_ : Value, e = .returned (v0_) ∧ Kd.R (Kd.int .i64) 3 w' w.heap.size (fun _ => True) v0_ r ∧ Below w.heap.size w w' := by
 have HB := zz (Below.refl w.heap.size w)
 have H : (if a0 = 85 then (some (([12, 13, 14, 15, 16, 17, 18, 19, 20, 21, 22, 23, 24, 25, 26, 27, 28, 29, 30, 31] : List Int))) else (if a0 = 74 then (some (([(-1), 21, 22, 23, 24, 25, 26, 27, 28, 29, 30, 20, 12, 13, 14, 15, 16, 17, 18, 19, 31] : List Int))) else (if a0 = 73 then (some (([20, 21, 22, 23, 24, 25, 26, 27, 28, 29, 30, 31] : List Int))) else (if a0 = 83 then (some (([7, 8, 9, 10, 11, 25, 26, 27, 28, 29, 30, 31] : List Int))) else (if a0 = 66 then (some (([(-1), 8, 9, 10, 11, 25, 26, 27, 28, 29, 30, 7, 31] : List Int))) else (if a0 = 72 then (some (([20, 21, 22, 23, 24] : List Int))) else (some (([] : List Int))))))))) = some r := h
 clear h
 by_cases c2 : a0 = 85
 ·rw [if_pos c2] at H
  have c2b0 : (a0 == 85) = true := beq_iff_eq.mpr c2
  have c2b1 : (a0 != 85) = false := bne_eq_false_iff_eq.mpr c2
  clear c2
  obtain ⟨y139, hy139⟩ : ∃ y_ : List Int, y_ = (([12, 13, 14, 15, 16, 17, 18, 19, 20, 21, 22, 23, 24, 25, 26, 27, 28, 29, 30, 31] : List Int)) := ⟨_, rfl⟩
  replace H : (some y139) = some r := by first | (rw [hy139]; with_reducible exact H) | (have H2_ := (Option.bind_some _ _).symm.trans H; rw [hy139]; with_reducible exact H2_) | (have H2_ := (Option.bind_some _ _).symm.trans H; with_reducible exact H2_) | with_reducible exact H | (rw [hy139]; exact H) | exact H
  have Ny139 := zz hy139
  clear hy139
  obtain rfl := Option.some.inj H
  go_enter Try.func80, Try.ntmps80
  go_wp2_with (first | ((with_reducible refine gate_dst (N := 6) rfl ?_); refine Kd.R_lit (Kd.int .i64) _ 3 ?hg (N := 6) ?hd (xs := ([12, 13, 14, 15, 16, 17, 18, 19, 20, 21, 22, 23, 24, 25, 26, 27, 28, 29, 30, 31] : List Int)) (inner := [.int .i64 12, .int .i64 13, .int .i64 14, .int .i64 15, .int .i64 16, .int .i64 17, .int .i64 18, .int .i64 19, .int .i64 20, .int .i64 21, .int .i64 22, .int .i64 23, .int .i64 24, .int .i64 25, .int .i64 26, .int .i64 27, .int .i64 28, .int .i64 29, .int .i64 30, .int .i64 31]) (ok := fun _ => True) (okp := fun _ => True) ?hr ?hp (fun _ hk => hk) trivial (Below.refl _ _) (Nat.le_refl _) (by simp) ?_; (case hd => rfl); (case hg => rfl); (case hr => first | (go_simp; done) | (go_simp; rfl)); (case hp => exact (zzu (zzu (zzu (zzu (zzu (zzu (zzu (zzu (zzu (zzu (zzu (zzu (zzu (zzu (zzu (zzu (zzu (zzu (zzu (zzu (Reps.none _ _)))))))))))))))))))))); intro v140 w3 ho4 hb hg_ hnew_; clear hg_ hnew_; (first | rw [← Ny139.out] at ho4 | (simp only [Int.reduceToNat] at ho4; rw [← Ny139.out] at ho4)); have n0_ := zz (Kd.R_lower ho4 (below_size zzb)); have n1_ := zz (below_step zzb hb); clear HB; have HO141 := n0_; have HB := n1_; clear n0_ n1_; clear hb ho4))
  go_ret
  exact ⟨_, zze, by refine zzr ?_; exact HO141.out, zzg⟩
 ·rw [if_neg c2] at H
  have c2b0 : (a0 == 85) = false := beq_eq_false_iff_ne.mpr c2
  have c2b1 : (a0 != 85) = true := bne_iff_ne.mpr c2
  by_cases c5 : a0 = 74
  ·rw [if_pos c5] at H
   have c5b0 : (a0 == 74) = true := beq_iff_eq.mpr c5
   have c5b1 : (a0 != 74) = false := bne_eq_false_iff_eq.mpr c5
   clear c5
   obtain ⟨y142, hy142⟩ : ∃ y_ : List Int, y_ = (([(-1), 21, 22, 23, 24, 25, 26, 27, 28, 29, 30, 20, 12, 13, 14, 15, 16, 17, 18, 19, 31] : List Int)) := ⟨_, rfl⟩
   replace H : (some y142) = some r := by first | (rw [hy142]; with_reducible exact H) | (have H2_ := (Option.bind_some _ _).symm.trans H; rw [hy142]; with_reducible exact H2_) | (have H2_ := (Option.bind_some _ _).symm.trans H; with_reducible exact H2_) | with_reducible exact H | (rw [hy142]; exact H) | exact H
   have Ny142 := zz hy142
   clear hy142
   obtain rfl := Option.some.inj H
   go_enter Try.func80, Try.ntmps80
   go_wp2_with (first | ((with_reducible refine gate_dst (N := 9) rfl ?_); refine Kd.R_lit (Kd.int .i64) _ 3 ?hg (N := 9) ?hd (xs := ([(-1), 21, 22, 23, 24, 25, 26, 27, 28, 29, 30, 20, 12, 13, 14, 15, 16, 17, 18, 19, 31] : List Int)) (inner := [.int .i64 (-1), .int .i64 21, .int .i64 22, .int .i64 23, .int .i64 24, .int .i64 25, .int .i64 26, .int .i64 27, .int .i64 28, .int .i64 29, .int .i64 30, .int .i64 20, .int .i64 12, .int .i64 13, .int .i64 14, .int .i64 15, .int .i64 16, .int .i64 17, .int .i64 18, .int .i64 19, .int .i64 31]) (ok := fun _ => True) (okp := fun _ => True) ?hr ?hp (fun _ hk => hk) trivial (Below.refl _ _) (Nat.le_refl _) (by simp) ?_; (case hd => rfl); (case hg => rfl); (case hr => first | (go_simp; done) | (go_simp; rfl)); (case hp => exact (zzu (zzu (zzu (zzu (zzu (zzu (zzu (zzu (zzu (zzu (zzu (zzu (zzu (zzu (zzu (zzu (zzu (zzu (zzu (zzu (zzu (Reps.none _ _))))))))))))))))))))))); intro v143 w6 ho7 hb hg_ hnew_; clear hg_ hnew_; (first | rw [← Ny142.out] at ho7 | (simp only [Int.reduceToNat] at ho7; rw [← Ny142.out] at ho7)); have n0_ := zz (Kd.R_lower ho7 (below_size zzb)); have n1_ := zz (below_step zzb hb); clear HB; have HO144 := n0_; have HB := n1_; clear n0_ n1_; clear hb ho7))
   go_ret
   exact ⟨_, zze, by refine zzr ?_; exact HO144.out, zzg⟩
  ·rw [if_neg c5] at H
   have c5b0 : (a0 == 74) = false := beq_eq_false_iff_ne.mpr c5
   have c5b1 : (a0 != 74) = true := bne_iff_ne.mpr c5
   by_cases c8 : a0 = 73
   ·rw [if_pos c8] at H
    have c8b0 : (a0 == 73) = true := beq_iff_eq.mpr c8
    have c8b1 : (a0 != 73) = false := bne_eq_false_iff_eq.mpr c8
    clear c8
    obtain ⟨y145, hy145⟩ : ∃ y_ : List Int, y_ = (([20, 21, 22, 23, 24, 25, 26, 27, 28, 29, 30, 31] : List Int)) := ⟨_, rfl⟩
    replace H : (some y145) = some r := by first | (rw [hy145]; with_reducible exact H) | (have H2_ := (Option.bind_some _ _).symm.trans H; rw [hy145]; with_reducible exact H2_) | (have H2_ := (Option.bind_some _ _).symm.trans H; with_reducible exact H2_) | with_reducible exact H | (rw [hy145]; exact H) | exact H
    have Ny145 := zz hy145
    clear hy145
    obtain rfl := Option.some.inj H
    go_enter Try.func80, Try.ntmps80
    go_wp2_with (first | ((with_reducible refine gate_dst (N := 12) rfl ?_); refine Kd.R_lit (Kd.int .i64) _ 3 ?hg (N := 12) ?hd (xs := ([20, 21, 22, 23, 24, 25, 26, 27, 28, 29, 30, 31] : List Int)) (inner := [.int .i64 20, .int .i64 21, .int .i64 22, .int .i64 23, .int .i64 24, .int .i64 25, .int .i64 26, .int .i64 27, .int .i64 28, .int .i64 29, .int .i64 30, .int .i64 31]) (ok := fun _ => True) (okp := fun _ => True) ?hr ?hp (fun _ hk => hk) trivial (Below.refl _ _) (Nat.le_refl _) (by simp) ?_; (case hd => rfl); (case hg => rfl); (case hr => first | (go_simp; done) | (go_simp; rfl)); (case hp => exact (zzu (zzu (zzu (zzu (zzu (zzu (zzu (zzu (zzu (zzu (zzu (zzu (Reps.none _ _)))))))))))))); intro v146 w9 ho10 hb hg_ hnew_; clear hg_ hnew_; (first | rw [← Ny145.out] at ho10 | (simp only [Int.reduceToNat] at ho10; rw [← Ny145.out] at ho10)); have n0_ := zz (Kd.R_lower ho10 (below_size zzb)); have n1_ := zz (below_step zzb hb); clear HB; have HO147 := n0_; have HB := n1_; clear n0_ n1_; clear hb ho10))
    go_ret
    exact ⟨_, zze, by refine zzr ?_; exact HO147.out, zzg⟩
   ·rw [if_neg c8] at H
    have c8b0 : (a0 == 73) = false := beq_eq_false_iff_ne.mpr c8
    have c8b1 : (a0 != 73) = true := bne_iff_ne.mpr c8
    by_cases c11 : a0 = 83
    ·rw [if_pos c11] at H
     have c11b0 : (a0 == 83) = true := beq_iff_eq.mpr c11
     have c11b1 : (a0 != 83) = false := bne_eq_false_iff_eq.mpr c11
     clear c11
     obtain ⟨y148, hy148⟩ : ∃ y_ : List Int, y_ = (([7, 8, 9, 10, 11, 25, 26, 27, 28, 29, 30, 31] : List Int)) := ⟨_, rfl⟩
     replace H : (some y148) = some r := by first | (rw [hy148]; with_reducible exact H) | (have H2_ := (Option.bind_some _ _).symm.trans H; rw [hy148]; with_reducible exact H2_) | (have H2_ := (Option.bind_some _ _).symm.trans H; with_reducible exact H2_) | with_reducible exact H | (rw [hy148]; exact H) | exact H
     have Ny148 := zz hy148
     clear hy148
     obtain rfl := Option.some.inj H
     go_enter Try.func80, Try.ntmps80
     go_wp2_with (first | ((with_reducible refine gate_dst (N := 15) rfl ?_); refine Kd.R_lit (Kd.int .i64) _ 3 ?hg (N := 15) ?hd (xs := ([7, 8, 9, 10, 11, 25, 26, 27, 28, 29, 30, 31] : List Int)) (inner := [.int .i64 7, .int .i64 8, .int .i64 9, .int .i64 10, .int .i64 11, .int .i64 25, .int .i64 26, .int .i64 27, .int .i64 28, .int .i64 29, .int .i64 30, .int .i64 31]) (ok := fun _ => True) (okp := fun _ => True) ?hr ?hp (fun _ hk => hk) trivial (Below.refl _ _) (Nat.le_refl _) (by simp) ?_; (case hd => rfl); (case hg => rfl); (case hr => first | (go_simp; done) | (go_simp; rfl)); (case hp => exact (zzu (zzu (zzu (zzu (zzu (zzu (zzu (zzu (zzu (zzu (zzu (zzu (Reps.none _ _)))))))))))))); intro v149 w12 ho13 hb hg_ hnew_; clear hg_ hnew_; (first | rw [← Ny148.out] at ho13 | (simp only [Int.reduceToNat] at ho13; rw [← Ny148.out] at ho13)); have n0_ := zz (Kd.R_lower ho13 (below_size zzb)); have n1_ := zz (below_step zzb hb); clear HB; have HO150 := n0_; have HB := n1_; clear n0_ n1_; clear hb ho13))
     go_ret
     exact ⟨_, zze, by refine zzr ?_; exact HO150.out, zzg⟩
    ·rw [if_neg c11] at H
     have c11b0 : (a0 == 83) = false := beq_eq_false_iff_ne.mpr c11
     have c11b1 : (a0 != 83) = true := bne_iff_ne.mpr c11
     by_cases c14 : a0 = 66
     ·rw [if_pos c14] at H
      have c14b0 : (a0 == 66) = true := beq_iff_eq.mpr c14
      have c14b1 : (a0 != 66) = false := bne_eq_false_iff_eq.mpr c14
      clear c14
      obtain ⟨y151, hy151⟩ : ∃ y_ : List Int, y_ = (([(-1), 8, 9, 10, 11, 25, 26, 27, 28, 29, 30, 7, 31] : List Int)) := ⟨_, rfl⟩
      replace H : (some y151) = some r := by first | (rw [hy151]; with_reducible exact H) | (have H2_ := (Option.bind_some _ _).symm.trans H; rw [hy151]; with_reducible exact H2_) | (have H2_ := (Option.bind_some _ _).symm.trans H; with_reducible exact H2_) | with_reducible exact H | (rw [hy151]; exact H) | exact H
      have Ny151 := zz hy151
      clear hy151
      obtain rfl := Option.some.inj H
      go_enter Try.func80, Try.ntmps80
      go_wp2_with (first | ((with_reducible refine gate_dst (N := 18) rfl ?_); refine Kd.R_lit (Kd.int .i64) _ 3 ?hg (N := 18) ?hd (xs := ([(-1), 8, 9, 10, 11, 25, 26, 27, 28, 29, 30, 7, 31] : List Int)) (inner := [.int .i64 (-1), .int .i64 8, .int .i64 9, .int .i64 10, .int .i64 11, .int .i64 25, .int .i64 26, .int .i64 27, .int .i64 28, .int .i64 29, .int .i64 30, .int .i64 7, .int .i64 31]) (ok := fun _ => True) (okp := fun _ => True) ?hr ?hp (fun _ hk => hk) trivial (Below.refl _ _) (Nat.le_refl _) (by simp) ?_; (case hd => rfl); (case hg => rfl); (case hr => first | (go_simp; done) | (go_simp; rfl)); (case hp => exact (zzu (zzu (zzu (zzu (zzu (zzu (zzu (zzu (zzu (zzu (zzu (zzu (zzu (Reps.none _ _))))))))))))))); intro v152 w15 ho16 hb hg_ hnew_; clear hg_ hnew_; (first | rw [← Ny151.out] at ho16 | (simp only [Int.reduceToNat] at ho16; rw [← Ny151.out] at ho16)); have n0_ := zz (Kd.R_lower ho16 (below_size zzb)); have n1_ := zz (below_step zzb hb); clear HB; have HO153 := n0_; have HB := n1_; clear n0_ n1_; clear hb ho16))
      go_ret
      exact ⟨_, zze, by refine zzr ?_; exact HO153.out, zzg⟩
     ·rw [if_neg c14] at H
      have c14b0 : (a0 == 66) = false := beq_eq_false_iff_ne.mpr c14
      have c14b1 : (a0 != 66) = true := bne_iff_ne.mpr c14
      by_cases c17 : a0 = 72
      ·rw [if_pos c17] at H
       have c17b0 : (a0 == 72) = true := beq_iff_eq.mpr c17
       have c17b1 : (a0 != 72) = false := bne_eq_false_iff_eq.mpr c17
       clear c17
       obtain ⟨y154, hy154⟩ : ∃ y_ : List Int, y_ = (([20, 21, 22, 23, 24] : List Int)) := ⟨_, rfl⟩
       replace H : (some y154) = some r := by first | (rw [hy154]; with_reducible exact H) | (have H2_ := (Option.bind_some _ _).symm.trans H; rw [hy154]; with_reducible exact H2_) | (have H2_ := (Option.bind_some _ _).symm.trans H; with_reducible exact H2_) | with_reducible exact H | (rw [hy154]; exact H) | exact H
       have Ny154 := zz hy154
       clear hy154
       obtain rfl := Option.some.inj H
       go_enter Try.func80, Try.ntmps80
       go_wp2_with (first | ((with_reducible refine gate_dst (N := 21) rfl ?_); refine Kd.R_lit (Kd.int .i64) _ 3 ?hg (N := 21) ?hd (xs := ([20, 21, 22, 23, 24] : List Int)) (inner := [.int .i64 20, .int .i64 21, .int .i64 22, .int .i64 23, .int .i64 24]) (ok := fun _ => True) (okp := fun _ => True) ?hr ?hp (fun _ hk => hk) trivial (Below.refl _ _) (Nat.le_refl _) (by simp) ?_; (case hd => rfl); (case hg => rfl); (case hr => first | (go_simp; done) | (go_simp; rfl)); (case hp => exact (zzu (zzu (zzu (zzu (zzu (Reps.none _ _))))))); intro v155 w18 ho19 hb hg_ hnew_; clear hg_ hnew_; (first | rw [← Ny154.out] at ho19 | (simp only [Int.reduceToNat] at ho19; rw [← Ny154.out] at ho19)); have n0_ := zz (Kd.R_lower ho19 (below_size zzb)); have n1_ := zz (below_step zzb hb); clear HB; have HO156 := n0_; have HB := n1_; clear n0_ n1_; clear hb ho19))
       go_ret
       exact ⟨_, zze, by refine zzr ?_; exact HO156.out, zzg⟩
      ·rw [if_neg c17] at H
       have c17b0 : (a0 == 72) = false := beq_eq_false_iff_ne.mpr c17
       have c17b1 : (a0 != 72) = true := bne_iff_ne.mpr c17
       obtain ⟨y157, hy157⟩ : ∃ y_ : List Int, y_ = (([] : List Int)) := ⟨_, rfl⟩
       replace H : (some y157) = some r := by first | (rw [hy157]; with_reducible exact H) | (have H2_ := (Option.bind_some _ _).symm.trans H; rw [hy157]; with_reducible exact H2_) | (have H2_ := (Option.bind_some _ _).symm.trans H; with_reducible exact H2_) | with_reducible exact H | (rw [hy157]; exact H) | exact H
       have Ny157 := zz hy157
       clear hy157
       obtain rfl := Option.some.inj H
       go_enter Try.func80, Try.ntmps80
       go_wp2_with (first | ((with_reducible refine gate_dst (N := 22) rfl ?_); refine Kd.R_lit (Kd.int .i64) _ 3 ?hg (N := 22) ?hd (xs := ([] : List Int)) (inner := []) (ok := fun _ => True) (okp := fun _ => True) ?hr ?hp (fun _ hk => hk) trivial (Below.refl _ _) (Nat.le_refl _) (by simp) ?_; (case hd => rfl); (case hg => rfl); (case hr => first | (go_simp; done) | (go_simp; rfl)); (case hp => exact (Reps.none _ _)); intro v158 w20 ho21 hb hg_ hnew_; clear hg_ hnew_; (first | rw [← Ny157.out] at ho21 | (simp only [Int.reduceToNat] at ho21; rw [← Ny157.out] at ho21)); have n0_ := zz (Kd.R_lower ho21 (below_size zzb)); have n1_ := zz (below_step zzb hb); clear HB; have HO159 := n0_; have HB := n1_; clear n0_ n1_; clear hb ho21))
       go_ret
       exact ⟨_, zze, by refine zzr ?_; exact HO159.out, zzg⟩
end Go.Proofs.Ytekenddkoahjgaa.Q
