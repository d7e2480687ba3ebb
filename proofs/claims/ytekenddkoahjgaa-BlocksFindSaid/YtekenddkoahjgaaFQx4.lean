import Derived.Test.YtekenddkoahjgaaFZc
import Derived.Test.YtekenddkoahjgaaFQx3
namespace Go.Proofs.Ytekenddkoahjgaa.Q
open Go.RowKit Go.Proofs.YtekenddkoahjgaaW.PrintWords Go.Proofs.YtekenddkoahjgaaW.PrintLast Go.Proofs.YtekenddkoahjgaaW.PrintMore
attribute [local go_sem] max2_int min2_int max_two min_two max_three min_three max_four min_four
attribute [local go_sem] imax_u32 imax_u8 isg_u32 isg_u8
set_option linter.unusedVariables false
set_option linter.unusedSimpArgs false
def inst_between.f (a0 : Int) (a1 : Int) (a2 : Int) : Option (Bool) := if a0 ≥ a1 then (some (decide (a0 ≤ a2))) else (some false)
set_option maxHeartbeats 8000000 in
set_option maxRecDepth 100000 in
theorem inst_between.calls (a0 : Int) (a1 : Int) (a2 : Int) (r : Bool) (w : World) (h : inst_between.f a0 a1 a2 = some r) :
  Calls Try.prog 64 #[.int .i64 a0, .int .i64 a1, .int .i64 a2] w fun e w' => e = .returned (.bool r) ∧ Drawn0 w w' := by
 have H : (if a0 ≥ a1 then (some (decide (a0 ≤ a2))) else (some false)) = some r := h
 clear h
 by_cases c4 : a0 ≥ a1
 ·rw [if_pos c4] at H
  have c4b0 : decide (a1 ≤ a0) = true := decide_eq_true c4
  clear c4
  obtain rfl := Option.some.inj H
  go_enter Try.func64, Try.ntmps64
  go_wp2
  go_ret
  exact ⟨by first | rfl | (simp; done) | (simp [*]; done), by repeat (first | exact Drawn0.refl _ | apply Drawn0.step)⟩
 ·rw [if_neg c4] at H
  have c4b0 : decide (a1 ≤ a0) = false := decide_eq_false c4
  clear c4
  obtain rfl := Option.some.inj H
  go_enter Try.func64, Try.ntmps64
  go_wp2
  go_ret
  exact ⟨by first | rfl | (simp; done) | (simp [*]; done), by repeat (first | exact Drawn0.refl _ | apply Drawn0.step)⟩
def inst_register.f (a0 : Bool) (a1 : Int) : Option (Bool) := if a0 = true then ((inst_between.f a1 0 31).bind fun t101 => (if t101 = true then (some true) else (some (a1 == 0)))) else (some (a1 == 0))
set_option maxHeartbeats 8000000 in
set_option maxRecDepth 100000 in
theorem inst_register.calls (a0 : Bool) (a1 : Int) (r : Bool) (w : World) (h : inst_register.f a0 a1 = some r) :
  Calls Try.prog 48 #[.bool a0, .int .i64 a1] w fun e w' => e = .returned (.bool r) ∧ Drawn0 w w' := by
 have H : (if a0 = true then ((inst_between.f a1 0 31).bind fun t101 => (if t101 = true then (some true) else (some (a1 == 0)))) else (some (a1 == 0))) = some r := h
 clear h
 by_cases c3 : a0 = true
 ·subst c3
  have H1 : ((inst_between.f a1 0 31).bind fun t101 => (if t101 = true then (some true) else (some (a1 == 0)))) = some r := by rw [if_pos rfl] at H; exact H
  clear H
  have H := H1
  clear H1
  replace H := Option.bind_eq_some_iff.mp H
  obtain ⟨t101, A40, H⟩ := H
  replace H : (if t101 = true then (some true) else (some (a1 == 0))) = some r := H
  have A4 := Aside0.mk A40
  clear A40
  by_cases c5 : t101 = true
  ·subst c5
   have H1 : (some true) = some r := by rw [if_pos rfl] at H; exact H
   clear H
   have H := H1
   clear H1
   obtain rfl := Option.some.inj H
   go_enter Try.func48, Try.ntmps48
   go_wp2_with (first | (go_at_call 64; (with_reducible refine (inst_between.calls a1 0 31 true _ A4.out).mono ?_); rintro e w' ⟨rfl, ⟨nd, rfl⟩⟩))
   go_ret
   exact ⟨by first | rfl | (simp; done) | (simp [*]; done), by repeat (first | exact Drawn0.refl _ | apply Drawn0.step)⟩
  ·replace c5 := Bool.eq_false_iff.mpr c5
   subst c5
   have H1 : (some (a1 == 0)) = some r := by rw [if_neg (show ¬ (false = true) by decide)] at H; exact H
   clear H
   have H := H1
   clear H1
   obtain rfl := Option.some.inj H
   go_enter Try.func48, Try.ntmps48
   go_wp2_with (first | (go_at_call 64; (with_reducible refine (inst_between.calls a1 0 31 false _ A4.out).mono ?_); rintro e w' ⟨rfl, ⟨nd, rfl⟩⟩))
   go_ret
   exact ⟨by first | rfl | (simp; done) | (simp [*]; done), by repeat (first | exact Drawn0.refl _ | apply Drawn0.step)⟩
 ·replace c3 := Bool.eq_false_iff.mpr c3
  subst c3
  have H1 : (some (a1 == 0)) = some r := by rw [if_neg (show ¬ (false = true) by decide)] at H; exact H
  clear H
  have H := H1
  clear H1
  obtain rfl := Option.some.inj H
  go_enter Try.func48, Try.ntmps48
  go_wp2
  go_ret
  exact ⟨by first | rfl | (simp; done) | (simp [*]; done), by repeat (first | exact Drawn0.refl _ | apply Drawn0.step)⟩
def inst_number.j0 : Nat → Int → Int → Bool → Option (Bool)
 | 0, _, _, _ => none
 | k + 1, x1, x5, x19 => if x19 = true then ((inst_between.f x1 (-2048) 2047).bind fun t104 => (some t104)) else (if x5 = 66 then ((inst_between.f x1 (-4096) 4094).bind fun t105 => (if t105 = true then (some ((Int.tmod x1 2) == 0)) else (some false))) else (if x5 = 72 then ((inst_between.f x1 0 31).bind fun t106 => (some t106)) else (some (x1 == 0))))
def inst_number.f (k : Nat) (a0 : Int) (a1 : Int) : Option (Bool) := if a0 = 85 then ((inst_between.f a1 0 1048575).bind fun t102 => (some t102)) else (if a0 = 74 then ((inst_between.f a1 (-1048576) 1048574).bind fun t103 => (if t103 = true then (some ((Int.tmod a1 2) == 0)) else (some false))) else (if a0 = 73 then (inst_number.j0 k a1 a0 (a0 == 73)) else (inst_number.j0 k a1 a0 (a0 == 83))))
theorem inst_number.mono_l : ∀ k, (∀ y0 y1 y2, LeO (inst_number.j0 k y0 y1 y2) (inst_number.j0 (k + 1) y0 y1 y2))
 | 0 => fun _ _ _ r h => by simp [inst_number.j0] at h
 | k + 1 => by
  have ih0 := inst_number.mono_l k
  ·intro y0 y1 y2
   unfold inst_number.j0
   repeat' first
   | (with_reducible exact ih0 _ _ _)
   | (with_reducible exact LeO.refl _)
   | (with_reducible exact LeO.none _)
   | (with_reducible refine LeO.ite ?_ ?_)
   | (with_reducible refine LeO.bind ?_ (fun _ => ?_))
   | exact ih0 _ _ _
   | exact LeO.none _
   | refine LeO.ite ?_ ?_
   | refine LeO.bind ?_ (fun _ => ?_)
theorem inst_number.mono : ∀ a0 a1 k, LeO (inst_number.f k a0 a1) (inst_number.f (k + 1) a0 a1) := by
 intro a0 a1 k
 have ih0 := inst_number.mono_l k
 unfold inst_number.f
 repeat' first
   | (with_reducible exact ih0 _ _ _)
   | (with_reducible exact LeO.refl _)
   | (with_reducible exact LeO.none _)
   | (with_reducible refine LeO.ite ?_ ?_)
   | (with_reducible refine LeO.bind ?_ (fun _ => ?_))
   | exact ih0 _ _ _
   | exact LeO.none _
   | refine LeO.ite ?_ ?_
   | refine LeO.bind ?_ (fun _ => ?_)
set_option maxHeartbeats 8000000 in
set_option maxRecDepth 100000 in
theorem inst_number.calls (k : Nat) (a0 : Int) (a1 : Int) (r : Bool) (w : World) (h : inst_number.f k a0 a1 = some r) :
  Calls Try.prog 49 #[.int .u8 a0, .int .i64 a1] w fun e w' => e = .returned (.bool r) ∧ Drawn0 w w' := by
 have H : (if a0 = 85 then ((inst_between.f a1 0 1048575).bind fun t102 => (some t102)) else (if a0 = 74 then ((inst_between.f a1 (-1048576) 1048574).bind fun t103 => (if t103 = true then (some ((Int.tmod a1 2) == 0)) else (some false))) else (if a0 = 73 then (inst_number.j0 k a1 a0 (a0 == 73)) else (inst_number.j0 k a1 a0 (a0 == 83))))) = some r := h
 clear h
 by_cases c3 : a0 = 85
 ·rw [if_pos c3] at H
  have c3b0 : (a0 == 85) = true := beq_iff_eq.mpr c3
  have c3b1 : (a0 != 85) = false := bne_eq_false_iff_eq.mpr c3
  clear c3
  replace H := Option.bind_eq_some_iff.mp H
  obtain ⟨t102, A40, H⟩ := H
  replace H : (some t102) = some r := H
  have A4 := Aside0.mk A40
  clear A40
  obtain rfl := Option.some.inj H
  go_enter Try.func49, Try.ntmps49
  go_wp2_with (first | ((with_reducible refine gate_callee (f := 64) rfl ?_); refine goesL_ (some 9) rfl rfl Try.func64 (by kernel_rfl) rfl #[.int .i64 a1, .int .i64 0, .int .i64 1048575] rfl zza ?_; (with_reducible refine (inst_between.calls a1 0 1048575 t102 _ A4.out).mono ?_); rintro e w' ⟨rfl, ⟨nd, rfl⟩⟩; refine ⟨_, rfl, ?_⟩))
  go_ret
  exact ⟨by first | rfl | (simp; done) | (simp [*]; done), by repeat (first | exact Drawn0.refl _ | apply Drawn0.step)⟩
 ·rw [if_neg c3] at H
  have c3b0 : (a0 == 85) = false := beq_eq_false_iff_ne.mpr c3
  have c3b1 : (a0 != 85) = true := bne_iff_ne.mpr c3
  by_cases c5 : a0 = 74
  ·rw [if_pos c5] at H
   have c5b0 : (a0 == 74) = true := beq_iff_eq.mpr c5
   have c5b1 : (a0 != 74) = false := bne_eq_false_iff_eq.mpr c5
   clear c5
   replace H := Option.bind_eq_some_iff.mp H
   obtain ⟨t103, A60, H⟩ := H
   replace H : (if t103 = true then (some ((Int.tmod a1 2) == 0)) else (some false)) = some r := H
   have A6 := Aside0.mk A60
   clear A60
   by_cases c7 : t103 = true
   ·subst c7
    have H1 : (some ((Int.tmod a1 2) == 0)) = some r := by rw [if_pos rfl] at H; exact H
    clear H
    have H := H1
    clear H1
    obtain rfl := Option.some.inj H
    go_enter Try.func49, Try.ntmps49
    go_wp2_with (first | ((with_reducible refine gate_callee (f := 64) rfl ?_); refine goesL_ (some 13) rfl rfl Try.func64 (by kernel_rfl) rfl #[.int .i64 a1, .int .i64 (-1048576), .int .i64 1048574] rfl zza ?_; (with_reducible refine (inst_between.calls a1 (-1048576) 1048574 true _ A6.out).mono ?_); rintro e w' ⟨rfl, ⟨nd, rfl⟩⟩; refine ⟨_, rfl, ?_⟩))
    go_ret
    exact ⟨by first | rfl | (simp; done) | (simp [*]; done), by repeat (first | exact Drawn0.refl _ | apply Drawn0.step)⟩
   ·replace c7 := Bool.eq_false_iff.mpr c7
    subst c7
    have H1 : (some false) = some r := by rw [if_neg (show ¬ (false = true) by decide)] at H; exact H
    clear H
    have H := H1
    clear H1
    obtain rfl := Option.some.inj H
    go_enter Try.func49, Try.ntmps49
    go_wp2_with (first | ((with_reducible refine gate_callee (f := 64) rfl ?_); refine goesL_ (some 13) rfl rfl Try.func64 (by kernel_rfl) rfl #[.int .i64 a1, .int .i64 (-1048576), .int .i64 1048574] rfl zza ?_; (with_reducible refine (inst_between.calls a1 (-1048576) 1048574 false _ A6.out).mono ?_); rintro e w' ⟨rfl, ⟨nd, rfl⟩⟩; refine ⟨_, rfl, ?_⟩))
    go_ret
    exact ⟨by first | rfl | (simp; done) | (simp [*]; done), by repeat (first | exact Drawn0.refl _ | apply Drawn0.step)⟩
  ·rw [if_neg c5] at H
   have c5b0 : (a0 == 74) = false := beq_eq_false_iff_ne.mpr c5
   have c5b1 : (a0 != 74) = true := bne_iff_ne.mpr c5
   have HC8 := Aside0.mk H
   clear H
   go_enter Try.func49, Try.ntmps49
   go_upto_if 19 with (fail)
   go_cut [19] (fun v19 wc => ∃ (kq : Nat) (x19_7 : Bool), v19 = .bool x19_7 ∧ Aside0 (inst_number.j0 kq a1 a0 x19_7 = some r) ∧ Aside0 (kq ≤ k) ∧ Drawn0 w wc)
   case first =>
    have H := HC8.out
    clear HC8
    by_cases c9 : a0 = 73
    ·rw [if_pos c9] at H
     have c9b0 : (a0 == 73) = true := beq_iff_eq.mpr c9
     have c9b1 : (a0 != 73) = false := bne_eq_false_iff_eq.mpr c9
     clear c9
     (first | rw [c9b0] | (simp only [i64_w, i32_w]; rw [c9b0]) | skip)
     have H' := Aside0.mk H
     clear H
     go_wp2
     go_meet
     case rel => exact ⟨_, ((a0 == 73)), (by first | rfl | (simp; done) | (simp [*]; done)), H', ⟨by first | omega | exact Nat.le_refl _⟩, by repeat (first | exact Drawn0.refl _ | apply Drawn0.step)⟩
    ·rw [if_neg c9] at H
     have c9b0 : (a0 == 73) = false := beq_eq_false_iff_ne.mpr c9
     have c9b1 : (a0 != 73) = true := bne_iff_ne.mpr c9
     (first | rw [c9b0] | (simp only [i64_w, i32_w]; rw [c9b0]) | skip)
     have H' := Aside0.mk H
     clear H
     go_wp2
     go_meet
     case rel => exact ⟨_, ((a0 == 83)), (by first | rfl | (simp; done) | (simp [*]; done)), H', ⟨by first | omega | exact Nat.le_refl _⟩, by repeat (first | exact Drawn0.refl _ | apply Drawn0.step)⟩
   case rest =>
    clear HC8
    try clear p2
    try clear c3
    try clear c3b0
    try clear c3b1
    try clear c4
    try clear c5
    try clear c5b0
    try clear c5b1
    try clear c6
    try clear c7
    try clear c9
    try clear c9b0
    try clear c9b1
    obtain ⟨kq, x19_7, rfl, HA, HJ7, ⟨mc7, rfl⟩⟩ := hcut
    cases kq with
    | zero => exact absurd HA.out (by simp [inst_number.j0])
    | succ kj7 =>
     have H := HA.out
     clear HA
     simp only [inst_number.j0] at H
     by_cases c10 : x19_7 = true
     ·subst c10
      have H1 : ((inst_between.f a1 (-2048) 2047).bind fun t104 => (some t104)) = some r := by rw [if_pos rfl] at H; exact H
      clear H
      have H := H1
      clear H1
      replace H := Option.bind_eq_some_iff.mp H
      obtain ⟨t104, A110, H⟩ := H
      replace H : (some t104) = some r := H
      have A11 := Aside0.mk A110
      clear A110
      obtain rfl := Option.some.inj H
      go_wp2_with (first | ((with_reducible refine gate_callee (f := 64) rfl ?_); refine goesL_ (some 23) rfl rfl Try.func64 (by kernel_rfl) rfl #[.int .i64 a1, .int .i64 (-2048), .int .i64 2047] rfl zza ?_; (with_reducible refine (inst_between.calls a1 (-2048) 2047 t104 _ A11.out).mono ?_); rintro e w' ⟨rfl, ⟨nd, rfl⟩⟩; refine ⟨_, rfl, ?_⟩))
      go_ret
      exact ⟨by first | rfl | (simp; done) | (simp [*]; done), by repeat (first | exact Drawn0.refl _ | apply Drawn0.step)⟩
     ·replace c10 := Bool.eq_false_iff.mpr c10
      subst c10
      have H1 : (if a0 = 66 then ((inst_between.f a1 (-4096) 4094).bind fun t105 => (if t105 = true then (some ((Int.tmod a1 2) == 0)) else (some false))) else (if a0 = 72 then ((inst_between.f a1 0 31).bind fun t106 => (some t106)) else (some (a1 == 0)))) = some r := by rw [if_neg (show ¬ (false = true) by decide)] at H; exact H
      clear H
      have H := H1
      clear H1
      by_cases c12 : a0 = 66
      ·rw [if_pos c12] at H
       have c12b0 : (a0 == 66) = true := beq_iff_eq.mpr c12
       have c12b1 : (a0 != 66) = false := bne_eq_false_iff_eq.mpr c12
       clear c12
       replace H := Option.bind_eq_some_iff.mp H
       obtain ⟨t105, A130, H⟩ := H
       replace H : (if t105 = true then (some ((Int.tmod a1 2) == 0)) else (some false)) = some r := H
       have A13 := Aside0.mk A130
       clear A130
       by_cases c14 : t105 = true
       ·subst c14
        have H1 : (some ((Int.tmod a1 2) == 0)) = some r := by rw [if_pos rfl] at H; exact H
        clear H
        have H := H1
        clear H1
        obtain rfl := Option.some.inj H
        go_wp2_with (first | ((with_reducible refine gate_callee (f := 64) rfl ?_); refine goesL_ (some 27) rfl rfl Try.func64 (by kernel_rfl) rfl #[.int .i64 a1, .int .i64 (-4096), .int .i64 4094] rfl zza ?_; (with_reducible refine (inst_between.calls a1 (-4096) 4094 true _ A13.out).mono ?_); rintro e w' ⟨rfl, ⟨nd, rfl⟩⟩; refine ⟨_, rfl, ?_⟩))
        go_ret
        exact ⟨by first | rfl | (simp; done) | (simp [*]; done), by repeat (first | exact Drawn0.refl _ | apply Drawn0.step)⟩
       ·replace c14 := Bool.eq_false_iff.mpr c14
        subst c14
        have H1 : (some false) = some r := by rw [if_neg (show ¬ (false = true) by decide)] at H; exact H
        clear H
        have H := H1
        clear H1
        obtain rfl := Option.some.inj H
        go_wp2_with (first | ((with_reducible refine gate_callee (f := 64) rfl ?_); refine goesL_ (some 27) rfl rfl Try.func64 (by kernel_rfl) rfl #[.int .i64 a1, .int .i64 (-4096), .int .i64 4094] rfl zza ?_; (with_reducible refine (inst_between.calls a1 (-4096) 4094 false _ A13.out).mono ?_); rintro e w' ⟨rfl, ⟨nd, rfl⟩⟩; refine ⟨_, rfl, ?_⟩))
        go_ret
        exact ⟨by first | rfl | (simp; done) | (simp [*]; done), by repeat (first | exact Drawn0.refl _ | apply Drawn0.step)⟩
      ·rw [if_neg c12] at H
       have c12b0 : (a0 == 66) = false := beq_eq_false_iff_ne.mpr c12
       have c12b1 : (a0 != 66) = true := bne_iff_ne.mpr c12
       by_cases c15 : a0 = 72
       ·rw [if_pos c15] at H
        have c15b0 : (a0 == 72) = true := beq_iff_eq.mpr c15
        have c15b1 : (a0 != 72) = false := bne_eq_false_iff_eq.mpr c15
        clear c15
        replace H := Option.bind_eq_some_iff.mp H
        obtain ⟨t106, A160, H⟩ := H
        replace H : (some t106) = some r := H
        have A16 := Aside0.mk A160
        clear A160
        obtain rfl := Option.some.inj H
        go_wp2_with (first | ((with_reducible refine gate_callee (f := 64) rfl ?_); refine goesL_ (some 36) rfl rfl Try.func64 (by kernel_rfl) rfl #[.int .i64 a1, .int .i64 0, .int .i64 31] rfl zza ?_; (with_reducible refine (inst_between.calls a1 0 31 t106 _ A16.out).mono ?_); rintro e w' ⟨rfl, ⟨nd, rfl⟩⟩; refine ⟨_, rfl, ?_⟩))
        go_ret
        exact ⟨by first | rfl | (simp; done) | (simp [*]; done), by repeat (first | exact Drawn0.refl _ | apply Drawn0.step)⟩
       ·rw [if_neg c15] at H
        have c15b0 : (a0 == 72) = false := beq_eq_false_iff_ne.mpr c15
        have c15b1 : (a0 != 72) = true := bne_iff_ne.mpr c15
        obtain rfl := Option.some.inj H
        go_wp2
        go_ret
        exact ⟨by first | rfl | (simp; done) | (simp [*]; done), by repeat (first | exact Drawn0.refl _ | apply Drawn0.step)⟩
end Go.Proofs.Ytekenddkoahjgaa.Q
