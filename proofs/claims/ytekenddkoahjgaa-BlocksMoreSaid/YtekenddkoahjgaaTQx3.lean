import Derived.Test.YtekenddkoahjgaaTQx0
namespace Go.Proofs.Ytekenddkoahjgaa.Q
open Go.RowKit Go.Proofs.YtekenddkoahjgaaW.PrintWords Go.Proofs.YtekenddkoahjgaaW.PrintLast Go.Proofs.YtekenddkoahjgaaW.PrintMore
attribute [local go_sem] max2_int min2_int max_two min_two max_three min_three max_four min_four   -- for this text's walks alone
attribute [local go_sem] imax_u32 imax_u8 isg_u32 isg_u8
set_option linter.unusedVariables false
set_option linter.unusedSimpArgs false
mutual
def inst_has.j0 : Nat → Int → Bool → Option (Bool × Bool × Bool)
 | 0, _, _ => none
 | k + 1, x5, x6 => if x6 = true then (some (true, false, false)) else (if x5 = 73 then (inst_has.j1 k x5 (x5 == 73)) else (inst_has.j1 k x5 (x5 == 72)))
def inst_has.j1 : Nat → Int → Bool → Option (Bool × Bool × Bool)
 | 0, _, _ => none
 | k + 1, x5, x9 => if x9 = true then (some (true, true, false)) else (if x5 = 66 then (inst_has.j2 k x5 (x5 == 66)) else (inst_has.j2 k x5 (x5 == 83)))
def inst_has.j2 : Nat → Int → Bool → Option (Bool × Bool × Bool)
 | 0, _, _ => none
 | k + 1, x5, x12 => if x12 = true then (some (false, true, true)) else (if x5 = 82 then (some (true, true, true)) else (some (false, false, false)))
end
def inst_has.f (k : Nat) (a0 : Int) : Option (Bool × Bool × Bool) := if a0 = 85 then (inst_has.j0 k a0 (a0 == 85)) else (inst_has.j0 k a0 (a0 == 74))
set_option maxHeartbeats 8000000 in
set_option maxRecDepth 100000 in
theorem inst_has.calls (k : Nat) (a0 : Int) (r1 : Bool) (r2 : Bool) (r3 : Bool) (w : World) (h : inst_has.f k a0 = some (r1, r2, r3)) :
  Calls Try.prog 47 #[.int .u8 a0] w fun e w' => e = .returned (.tuple #[.bool r1, .bool r2, .bool r3]) ∧ Drawn0 w w' := by
 have H : (if a0 = 85 then (inst_has.j0 k a0 (a0 == 85)) else (inst_has.j0 k a0 (a0 == 74))) = some (r1, r2, r3) := h
 clear h
 have HC2 := Aside0.mk H
 clear H
 go_enter Try.func47, Try.ntmps47
 go_upto_if 6 with (fail)
 go_cut [6] (fun v6 wc => ∃ (kq : Nat) (x6_1 : Bool), v6 = .bool x6_1 ∧ Aside0 (inst_has.j0 kq a0 x6_1 = some (r1, r2, r3)) ∧ Aside0 (kq ≤ k) ∧ Drawn0 w wc)
 case first =>
  have H := HC2.out
  clear HC2
  by_cases c3 : a0 = 85
  ·rw [if_pos c3] at H
   have c3b0 : (a0 == 85) = true := beq_iff_eq.mpr c3
   have c3b1 : (a0 != 85) = false := bne_eq_false_iff_eq.mpr c3
   clear c3
   (first | rw [c3b0] | (simp only [i64_w, i32_w]; rw [c3b0]) | skip)
   have H' := Aside0.mk H
   clear H
   go_wp2
   go_meet
   case rel => exact ⟨_, ((a0 == 85)), (by first | rfl | (simp; done) | (simp [*]; done)), H', ⟨by first | omega | exact Nat.le_refl _⟩, by repeat (first | exact Drawn0.refl _ | apply Drawn0.step)⟩
  ·rw [if_neg c3] at H
   have c3b0 : (a0 == 85) = false := beq_eq_false_iff_ne.mpr c3
   have c3b1 : (a0 != 85) = true := bne_iff_ne.mpr c3
   (first | rw [c3b0] | (simp only [i64_w, i32_w]; rw [c3b0]) | skip)
   have H' := Aside0.mk H
   clear H
   go_wp2
   go_meet
   case rel => exact ⟨_, ((a0 == 74)), (by first | rfl | (simp; done) | (simp [*]; done)), H', ⟨by first | omega | exact Nat.le_refl _⟩, by repeat (first | exact Drawn0.refl _ | apply Drawn0.step)⟩
 case rest =>
  clear HC2
  try clear p2
  try clear c3
  try clear c3b0
  try clear c3b1
  obtain ⟨kq, x6_1, rfl, HA, HJ1, ⟨mc1, rfl⟩⟩ := hcut
  cases kq with
  | zero => exact absurd HA.out (by simp [inst_has.j0])
  | succ kj1 =>
   have H := HA.out
   clear HA
   simp only [inst_has.j0] at H
   by_cases c4 : x6_1 = true
   ·subst c4
    have H1 : (some (true, false, false)) = some (r1, r2, r3) := by rw [if_pos rfl] at H; exact H
    clear H
    have H := H1
    clear H1
    simp only [Option.some.injEq, Prod.mk.injEq] at H
    obtain ⟨rfl, rfl, rfl⟩ := H
    go_wp2
    go_ret3
    exact ⟨by first | rfl | (simp; done) | (simp [*]; done), by repeat (first | exact Drawn0.refl _ | apply Drawn0.step)⟩
   ·replace c4 := Bool.eq_false_iff.mpr c4
    subst c4
    have H1 : (if a0 = 73 then (inst_has.j1 kj1 a0 (a0 == 73)) else (inst_has.j1 kj1 a0 (a0 == 72))) = some (r1, r2, r3) := by rw [if_neg (show ¬ (false = true) by decide)] at H; exact H
    clear H
    have H := H1
    clear H1
    have HC5 := Aside0.mk H
    clear H
    go_upto_if 9 with (fail)
    go_cut [9] (fun v9 wc => ∃ (kq : Nat) (x9_4 : Bool), v9 = .bool x9_4 ∧ Aside0 (inst_has.j1 kq a0 x9_4 = some (r1, r2, r3)) ∧ Aside0 (kq ≤ kj1) ∧ Drawn0 w wc)
    case first =>
     have H := HC5.out
     clear HC5
     by_cases c6 : a0 = 73
     ·rw [if_pos c6] at H
      have c6b0 : (a0 == 73) = true := beq_iff_eq.mpr c6
      have c6b1 : (a0 != 73) = false := bne_eq_false_iff_eq.mpr c6
      clear c6
      (first | rw [c6b0] | (simp only [i64_w, i32_w]; rw [c6b0]) | skip)
      have H' := Aside0.mk H
      clear H
      go_wp2
      go_meet
      case rel => exact ⟨_, ((a0 == 73)), (by first | rfl | (simp; done) | (simp [*]; done)), H', ⟨by have := HJ1.out; first | omega | exact Nat.le_refl _⟩, by repeat (first | exact Drawn0.refl _ | apply Drawn0.step)⟩
     ·rw [if_neg c6] at H
      have c6b0 : (a0 == 73) = false := beq_eq_false_iff_ne.mpr c6
      have c6b1 : (a0 != 73) = true := bne_iff_ne.mpr c6
      (first | rw [c6b0] | (simp only [i64_w, i32_w]; rw [c6b0]) | skip)
      have H' := Aside0.mk H
      clear H
      go_wp2
      go_meet
      case rel => exact ⟨_, ((a0 == 72)), (by first | rfl | (simp; done) | (simp [*]; done)), H', ⟨by have := HJ1.out; first | omega | exact Nat.le_refl _⟩, by repeat (first | exact Drawn0.refl _ | apply Drawn0.step)⟩
    case rest =>
     clear HC5
     try clear c1
     try clear p2
     try clear c3
     try clear c3b0
     try clear c3b1
     try clear c4
     try clear c6
     try clear c6b0
     try clear c6b1
     try clear p2
     obtain ⟨kq, x9_4, rfl, HA, HJ4, ⟨mc4, rfl⟩⟩ := hcut
     cases kq with
     | zero => exact absurd HA.out (by simp [inst_has.j1])
     | succ kj4 =>
      have H := HA.out
      clear HA
      simp only [inst_has.j1] at H
      by_cases c7 : x9_4 = true
      ·subst c7
       have H1 : (some (true, true, false)) = some (r1, r2, r3) := by rw [if_pos rfl] at H; exact H
       clear H
       have H := H1
       clear H1
       simp only [Option.some.injEq, Prod.mk.injEq] at H
       obtain ⟨rfl, rfl, rfl⟩ := H
       go_wp2
       go_ret3
       exact ⟨by first | rfl | (simp; done) | (simp [*]; done), by repeat (first | exact Drawn0.refl _ | apply Drawn0.step)⟩
      ·replace c7 := Bool.eq_false_iff.mpr c7
       subst c7
       have H1 : (if a0 = 66 then (inst_has.j2 kj4 a0 (a0 == 66)) else (inst_has.j2 kj4 a0 (a0 == 83))) = some (r1, r2, r3) := by rw [if_neg (show ¬ (false = true) by decide)] at H; exact H
       clear H
       have H := H1
       clear H1
       have HC8 := Aside0.mk H
       clear H
       go_upto_if 12 with (fail)
       go_cut [12] (fun v12 wc => ∃ (kq : Nat) (x12_7 : Bool), v12 = .bool x12_7 ∧ Aside0 (inst_has.j2 kq a0 x12_7 = some (r1, r2, r3)) ∧ Aside0 (kq ≤ kj4) ∧ Drawn0 w wc)
       case first =>
        have H := HC8.out
        clear HC8
        by_cases c9 : a0 = 66
        ·rw [if_pos c9] at H
         have c9b0 : (a0 == 66) = true := beq_iff_eq.mpr c9
         have c9b1 : (a0 != 66) = false := bne_eq_false_iff_eq.mpr c9
         clear c9
         (first | rw [c9b0] | (simp only [i64_w, i32_w]; rw [c9b0]) | skip)
         have H' := Aside0.mk H
         clear H
         go_wp2
         go_meet
         case rel => exact ⟨_, ((a0 == 66)), (by first | rfl | (simp; done) | (simp [*]; done)), H', ⟨by have := HJ1.out; have := HJ4.out; first | omega | exact Nat.le_refl _⟩, by repeat (first | exact Drawn0.refl _ | apply Drawn0.step)⟩
        ·rw [if_neg c9] at H
         have c9b0 : (a0 == 66) = false := beq_eq_false_iff_ne.mpr c9
         have c9b1 : (a0 != 66) = true := bne_iff_ne.mpr c9
         (first | rw [c9b0] | (simp only [i64_w, i32_w]; rw [c9b0]) | skip)
         have H' := Aside0.mk H
         clear H
         go_wp2
         go_meet
         case rel => exact ⟨_, ((a0 == 83)), (by first | rfl | (simp; done) | (simp [*]; done)), H', ⟨by have := HJ1.out; have := HJ4.out; first | omega | exact Nat.le_refl _⟩, by repeat (first | exact Drawn0.refl _ | apply Drawn0.step)⟩
       case rest =>
        clear HC8
        try clear c1
        try clear p2
        try clear c3
        try clear c3b0
        try clear c3b1
        try clear c4
        try clear c6
        try clear c6b0
        try clear c6b1
        try clear c7
        try clear c9
        try clear c9b0
        try clear c9b1
        try clear p2
        obtain ⟨kq, x12_7, rfl, HA, HJ7, ⟨mc7, rfl⟩⟩ := hcut
        cases kq with
        | zero => exact absurd HA.out (by simp [inst_has.j2])
        | succ kj7 =>
         have H := HA.out
         clear HA
         simp only [inst_has.j2] at H
         by_cases c10 : x12_7 = true
         ·subst c10
          have H1 : (some (false, true, true)) = some (r1, r2, r3) := by rw [if_pos rfl] at H; exact H
          clear H
          have H := H1
          clear H1
          simp only [Option.some.injEq, Prod.mk.injEq] at H
          obtain ⟨rfl, rfl, rfl⟩ := H
          go_wp2
          go_ret3
          exact ⟨by first | rfl | (simp; done) | (simp [*]; done), by repeat (first | exact Drawn0.refl _ | apply Drawn0.step)⟩
         ·replace c10 := Bool.eq_false_iff.mpr c10
          subst c10
          have H1 : (if a0 = 82 then (some (true, true, true)) else (some (false, false, false))) = some (r1, r2, r3) := by rw [if_neg (show ¬ (false = true) by decide)] at H; exact H
          clear H
          have H := H1
          clear H1
          by_cases c11 : a0 = 82
          ·rw [if_pos c11] at H
           have c11b0 : (a0 == 82) = true := beq_iff_eq.mpr c11
           have c11b1 : (a0 != 82) = false := bne_eq_false_iff_eq.mpr c11
           clear c11
           simp only [Option.some.injEq, Prod.mk.injEq] at H
           obtain ⟨rfl, rfl, rfl⟩ := H
           go_wp2
           go_ret3
           exact ⟨by first | rfl | (simp; done) | (simp [*]; done), by repeat (first | exact Drawn0.refl _ | apply Drawn0.step)⟩
          ·rw [if_neg c11] at H
           have c11b0 : (a0 == 82) = false := beq_eq_false_iff_ne.mpr c11
           have c11b1 : (a0 != 82) = true := bne_iff_ne.mpr c11
           simp only [Option.some.injEq, Prod.mk.injEq] at H
           obtain ⟨rfl, rfl, rfl⟩ := H
           go_wp2
           go_ret3
           exact ⟨by first | rfl | (simp; done) | (simp [*]; done), by repeat (first | exact Drawn0.refl _ | apply Drawn0.step)⟩
end Go.Proofs.Ytekenddkoahjgaa.Q
