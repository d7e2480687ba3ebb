import Derived.Test.YtononmcodecmaaaJQx0
namespace Go.Proofs.Ytononmcodecmaaa.Q
open Go.RowKit Go.Proofs.YtononmcodecmaaaW.PrintWords Go.Proofs.YtononmcodecmaaaW.PrintLast Go.Proofs.YtononmcodecmaaaW.PrintMore
attribute [local go_sem] max2_int min2_int max_two min_two max_three min_three max_four min_four   -- for this text's walks alone
attribute [local go_sem] imax_u32 imax_u8 isg_u32 isg_u8
set_option linter.unusedVariables false
set_option linter.unusedSimpArgs false
mutual
def word_divided.j0 : Nat → Int → Int → Int → Bool → Option (Int)
 | 0, _, _, _, _ => none
 | k + 1, x0, x1, x2, x7 => if x2 = 0 then (word_divided.j1 k x0 x1 x2 x7 x7) else (word_divided.j1 k x0 x1 x2 x7 false)
def word_divided.j1 : Nat → Int → Int → Int → Bool → Bool → Option (Int)
 | 0, _, _, _, _, _ => none
 | k + 1, x0, x1, x2, x7, x14 => if x14 = true then (some x1) else (if x2 = 0 then (some 4294967295) else (if x0 = 42 then (some ((Int.tdiv x1 x2) % 4294967296)) else (if x0 = 44 then (some (Int.tmod x1 x2)) else (if x1 = 2147483648 then (if x2 = 4294967295 then (word_divided.j2 k x1 x2 x7 x7) else (word_divided.j2 k x1 x2 x7 false)) else (word_divided.j2 k x1 x2 x7 false)))))
def word_divided.j2 : Nat → Int → Int → Bool → Bool → Option (Int)
 | 0, _, _, _, _ => none
 | k + 1, x1, x2, x7, x36 => if x36 = true then (some 0) else (if x1 = 2147483648 then (word_divided.j3 k x1 x2 x7 (x2 == 4294967295)) else (word_divided.j3 k x1 x2 x7 false))
def word_divided.j3 : Nat → Int → Int → Bool → Bool → Option (Int)
 | 0, _, _, _, _ => none
 | k + 1, x1, x2, x7, x46 => if x46 = true then (some x1) else (if x7 = true then (if (wrap32 (x2)) = 0 then (none) else (some ((Int.tmod (wrap32 (x1)) (wrap32 (x2))) % 4294967296))) else (if (wrap32 (x2)) = 0 then (none) else (some ((wrap32 (Int.tdiv (wrap32 (x1)) (wrap32 (x2)))) % 4294967296))))
end
def word_divided.f (k : Nat) (a0 : Int) (a1 : Int) (a2 : Int) : Option (Int) := if a0 = 43 then (word_divided.j0 k a0 a1 a2 true) else (word_divided.j0 k a0 a1 a2 (a0 == 44))
theorem word_divided.mono_l : ∀ k, (∀ y0 y1 y2 y3, LeO (word_divided.j0 k y0 y1 y2 y3) (word_divided.j0 (k + 1) y0 y1 y2 y3)) ∧ (∀ y0 y1 y2 y3 y4, LeO (word_divided.j1 k y0 y1 y2 y3 y4) (word_divided.j1 (k + 1) y0 y1 y2 y3 y4)) ∧ (∀ y0 y1 y2 y3, LeO (word_divided.j2 k y0 y1 y2 y3) (word_divided.j2 (k + 1) y0 y1 y2 y3)) ∧ (∀ y0 y1 y2 y3, LeO (word_divided.j3 k y0 y1 y2 y3) (word_divided.j3 (k + 1) y0 y1 y2 y3))
 | 0 => ⟨fun _ _ _ _ r h => by simp [word_divided.j0] at h, fun _ _ _ _ _ r h => by simp [word_divided.j1] at h, fun _ _ _ _ r h => by simp [word_divided.j2] at h, fun _ _ _ _ r h => by simp [word_divided.j3] at h⟩
 | k + 1 => by
  obtain ⟨ih0, ih1, ih2, ih3⟩ := word_divided.mono_l k
  refine ⟨?_, ?_, ?_, ?_⟩
  ·intro y0 y1 y2 y3
   unfold word_divided.j0
   repeat' first
   | (with_reducible exact ih0 _ _ _ _)
   | (with_reducible exact ih1 _ _ _ _ _)
   | (with_reducible exact ih2 _ _ _ _)
   | (with_reducible exact ih3 _ _ _ _)
   | (with_reducible exact LeO.refl _)
   | (with_reducible exact LeO.none _)
   | (with_reducible refine LeO.ite ?_ ?_)
   | (with_reducible refine LeO.bind ?_ (fun _ => ?_))
   | exact ih0 _ _ _ _
   | exact ih1 _ _ _ _ _
   | exact ih2 _ _ _ _
   | exact ih3 _ _ _ _
   | exact LeO.none _
   | refine LeO.ite ?_ ?_
   | refine LeO.bind ?_ (fun _ => ?_)
  ·intro y0 y1 y2 y3 y4
   unfold word_divided.j1
   repeat' first
   | (with_reducible exact ih0 _ _ _ _)
   | (with_reducible exact ih1 _ _ _ _ _)
   | (with_reducible exact ih2 _ _ _ _)
   | (with_reducible exact ih3 _ _ _ _)
   | (with_reducible exact LeO.refl _)
   | (with_reducible exact LeO.none _)
   | (with_reducible refine LeO.ite ?_ ?_)
   | (with_reducible refine LeO.bind ?_ (fun _ => ?_))
   | exact ih0 _ _ _ _
   | exact ih1 _ _ _ _ _
   | exact ih2 _ _ _ _
   | exact ih3 _ _ _ _
   | exact LeO.none _
   | refine LeO.ite ?_ ?_
   | refine LeO.bind ?_ (fun _ => ?_)
  ·intro y0 y1 y2 y3
   unfold word_divided.j2
   repeat' first
   | (with_reducible exact ih0 _ _ _ _)
   | (with_reducible exact ih1 _ _ _ _ _)
   | (with_reducible exact ih2 _ _ _ _)
   | (with_reducible exact ih3 _ _ _ _)
   | (with_reducible exact LeO.refl _)
   | (with_reducible exact LeO.none _)
   | (with_reducible refine LeO.ite ?_ ?_)
   | (with_reducible refine LeO.bind ?_ (fun _ => ?_))
   | exact ih0 _ _ _ _
   | exact ih1 _ _ _ _ _
   | exact ih2 _ _ _ _
   | exact ih3 _ _ _ _
   | exact LeO.none _
   | refine LeO.ite ?_ ?_
   | refine LeO.bind ?_ (fun _ => ?_)
  ·intro y0 y1 y2 y3
   unfold word_divided.j3
   repeat' first
   | (with_reducible exact ih0 _ _ _ _)
   | (with_reducible exact ih1 _ _ _ _ _)
   | (with_reducible exact ih2 _ _ _ _)
   | (with_reducible exact ih3 _ _ _ _)
   | (with_reducible exact LeO.refl _)
   | (with_reducible exact LeO.none _)
   | (with_reducible refine LeO.ite ?_ ?_)
   | (with_reducible refine LeO.bind ?_ (fun _ => ?_))
   | exact ih0 _ _ _ _
   | exact ih1 _ _ _ _ _
   | exact ih2 _ _ _ _
   | exact ih3 _ _ _ _
   | exact LeO.none _
   | refine LeO.ite ?_ ?_
   | refine LeO.bind ?_ (fun _ => ?_)
theorem word_divided.mono : ∀ a0 a1 a2 k, LeO (word_divided.f k a0 a1 a2) (word_divided.f (k + 1) a0 a1 a2) := by
 intro a0 a1 a2 k
 obtain ⟨ih0, ih1, ih2, ih3⟩ := word_divided.mono_l k
 unfold word_divided.f
 repeat' first
   | (with_reducible exact ih0 _ _ _ _)
   | (with_reducible exact ih1 _ _ _ _ _)
   | (with_reducible exact ih2 _ _ _ _)
   | (with_reducible exact ih3 _ _ _ _)
   | (with_reducible exact LeO.refl _)
   | (with_reducible exact LeO.none _)
   | (with_reducible refine LeO.ite ?_ ?_)
   | (with_reducible refine LeO.bind ?_ (fun _ => ?_))
   | exact ih0 _ _ _ _
   | exact ih1 _ _ _ _ _
   | exact ih2 _ _ _ _
   | exact ih3 _ _ _ _
   | exact LeO.none _
   | refine LeO.ite ?_ ?_
   | refine LeO.bind ?_ (fun _ => ?_)
set_option maxHeartbeats 8000000 in
set_option maxRecDepth 100000 in
theorem word_divided.calls (k : Nat) (a0 : Int) (a1 : Int) (a2 : Int) (r : Int) (w : World) (h : word_divided.f k a0 a1 a2 = some r) :
  Calls Try.prog 78 #[.int .i64 a0, .int .u32 a1, .int .u32 a2] w fun e w' => e = .returned (.int .u32 r) ∧ Drawn0 w w' := by
 have H : (if a0 = 43 then (word_divided.j0 k a0 a1 a2 true) else (word_divided.j0 k a0 a1 a2 (a0 == 44))) = some r := h
 clear h
 have HC4 := Aside0.mk H
 clear H
 go_enter Try.func78, Try.ntmps78
 go_upto_region 1 with (fail)
 go_cut [7] (fun v7 wc => ∃ (kq : Nat) (x7_3 : Bool), v7 = .bool x7_3 ∧ Aside0 (word_divided.j0 kq a0 a1 a2 x7_3 = some r) ∧ Aside0 (kq ≤ k) ∧ Drawn0 w wc)
 case first =>
  have H := HC4.out
  clear HC4
  by_cases c5 : a0 = 43
  ·rw [if_pos c5] at H
   have c5b0 : (a0 == 43) = true := beq_iff_eq.mpr c5
   have c5b1 : (a0 != 43) = false := bne_eq_false_iff_eq.mpr c5
   clear c5
   (first | rw [c5b0] | (simp only [i64_w, i32_w]; rw [c5b0]) | skip)
   have H' := Aside0.mk H
   clear H
   go_wp2
   go_meet
   case rel => exact ⟨_, (true), (by first | rfl | (simp; done) | (simp [*]; done)), H', ⟨by first | omega | exact Nat.le_refl _⟩, by repeat (first | exact Drawn0.refl _ | apply Drawn0.step)⟩
  ·rw [if_neg c5] at H
   have c5b0 : (a0 == 43) = false := beq_eq_false_iff_ne.mpr c5
   have c5b1 : (a0 != 43) = true := bne_iff_ne.mpr c5
   (first | rw [c5b0] | (simp only [i64_w, i32_w]; rw [c5b0]) | skip)
   have H' := Aside0.mk H
   clear H
   go_wp2
   go_meet
   case rel => exact ⟨_, ((a0 == 44)), (by first | rfl | (simp; done) | (simp [*]; done)), H', ⟨by first | omega | exact Nat.le_refl _⟩, by repeat (first | exact Drawn0.refl _ | apply Drawn0.step)⟩
 case rest =>
  clear HC4
  try clear p2
  try clear c5
  try clear c5b0
  try clear c5b1
  obtain ⟨kq, x7_3, rfl, HA, HJ3, ⟨mc3, rfl⟩⟩ := hcut
  cases kq with
  | zero => exact absurd HA.out (by simp [word_divided.j0])
  | succ kj3 =>
   have H := HA.out
   clear HA
   simp only [word_divided.j0] at H
   have HC6 := Aside0.mk H
   clear H
   go_upto_region 2 with (fail)
   go_cut [14] (fun v14 wc => ∃ (kq : Nat) (x14_5 : Bool), v14 = .bool x14_5 ∧ Aside0 (word_divided.j1 kq a0 a1 a2 x7_3 x14_5 = some r) ∧ Aside0 (kq ≤ kj3) ∧ Drawn0 w wc)
   case first =>
    have H := HC6.out
    clear HC6
    by_cases c7 : a2 = 0
    ·rw [if_pos c7] at H
     have c7b0 : (a2 == 0) = true := beq_iff_eq.mpr c7
     have c7b1 : (a2 != 0) = false := bne_eq_false_iff_eq.mpr c7
     clear c7
     (first | rw [c7b0] | (simp only [i64_w, i32_w]; rw [c7b0]) | skip)
     have H' := Aside0.mk H
     clear H
     go_wp2
     go_meet
     case rel => exact ⟨_, (x7_3), (by first | rfl | (simp; done) | (simp [*]; done)), H', ⟨by have := HJ3.out; first | omega | exact Nat.le_refl _⟩, by repeat (first | exact Drawn0.refl _ | apply Drawn0.step)⟩
    ·rw [if_neg c7] at H
     have c7b0 : (a2 == 0) = false := beq_eq_false_iff_ne.mpr c7
     have c7b1 : (a2 != 0) = true := bne_iff_ne.mpr c7
     (first | rw [c7b0] | (simp only [i64_w, i32_w]; rw [c7b0]) | skip)
     have H' := Aside0.mk H
     clear H
     go_wp2
     go_meet
     case rel => exact ⟨_, (false), (by first | rfl | (simp; done) | (simp [*]; done)), H', ⟨by have := HJ3.out; first | omega | exact Nat.le_refl _⟩, by repeat (first | exact Drawn0.refl _ | apply Drawn0.step)⟩
   case rest =>
    clear HC6
    try clear p2
    try clear c3
    try clear c5
    try clear c5b0
    try clear c5b1
    try clear c7
    try clear c7b0
    try clear c7b1
    try clear p2
    obtain ⟨kq, x14_5, rfl, HA, HJ5, ⟨mc5, rfl⟩⟩ := hcut
    cases kq with
    | zero => exact absurd HA.out (by simp [word_divided.j1])
    | succ kj5 =>
     have H := HA.out
     clear HA
     simp only [word_divided.j1] at H
     by_cases c8 : x14_5 = true
     ·subst c8
      have H1 : (some a1) = some r := by rw [if_pos rfl] at H; exact H
      clear H
      have H := H1
      clear H1
      obtain rfl := Option.some.inj H
      go_wp2
      go_ret
      exact ⟨by first | rfl | (simp; done) | (simp [*]; done), by repeat (first | exact Drawn0.refl _ | apply Drawn0.step)⟩
     ·replace c8 := Bool.eq_false_iff.mpr c8
      subst c8
      have H1 : (if a2 = 0 then (some 4294967295) else (if a0 = 42 then (some ((Int.tdiv a1 a2) % 4294967296)) else (if a0 = 44 then (some (Int.tmod a1 a2)) else (if a1 = 2147483648 then (if a2 = 4294967295 then (word_divided.j2 kj5 a1 a2 x7_3 x7_3) else (word_divided.j2 kj5 a1 a2 x7_3 false)) else (word_divided.j2 kj5 a1 a2 x7_3 false))))) = some r := by rw [if_neg (show ¬ (false = true) by decide)] at H; exact H
      clear H
      have H := H1
      clear H1
      by_cases c9 : a2 = 0
      ·rw [if_pos c9] at H
       have c9b0 : (a2 == 0) = true := beq_iff_eq.mpr c9
       have c9b1 : (a2 != 0) = false := bne_eq_false_iff_eq.mpr c9
       clear c9
       obtain rfl := Option.some.inj H
       go_wp2
       go_ret
       exact ⟨by first | rfl | (simp; done) | (simp [*]; done), by repeat (first | exact Drawn0.refl _ | apply Drawn0.step)⟩
      ·rw [if_neg c9] at H
       have c9b0 : (a2 == 0) = false := beq_eq_false_iff_ne.mpr c9
       have c9b1 : (a2 != 0) = true := bne_iff_ne.mpr c9
       by_cases c10 : a0 = 42
       ·rw [if_pos c10] at H
        have c10b0 : (a0 == 42) = true := beq_iff_eq.mpr c10
        have c10b1 : (a0 != 42) = false := bne_eq_false_iff_eq.mpr c10
        clear c10
        obtain rfl := Option.some.inj H
        go_wp2
        go_ret
        exact ⟨by first | rfl | (simp; done) | (simp [*]; done), by repeat (first | exact Drawn0.refl _ | apply Drawn0.step)⟩
       ·rw [if_neg c10] at H
        have c10b0 : (a0 == 42) = false := beq_eq_false_iff_ne.mpr c10
        have c10b1 : (a0 != 42) = true := bne_iff_ne.mpr c10
        by_cases c11 : a0 = 44
        ·rw [if_pos c11] at H
         have c11b0 : (a0 == 44) = true := beq_iff_eq.mpr c11
         have c11b1 : (a0 != 44) = false := bne_eq_false_iff_eq.mpr c11
         clear c11
         obtain rfl := Option.some.inj H
         go_wp2
         go_ret
         exact ⟨by first | rfl | (simp; done) | (simp [*]; done), by repeat (first | exact Drawn0.refl _ | apply Drawn0.step)⟩
        ·rw [if_neg c11] at H
         have c11b0 : (a0 == 44) = false := beq_eq_false_iff_ne.mpr c11
         have c11b1 : (a0 != 44) = true := bne_iff_ne.mpr c11
         have HC12 := Aside0.mk H
         clear H
         go_upto_region 10 with (fail)
         go_cut [36] (fun v36 wc => ∃ (kq : Nat) (x36_11 : Bool), v36 = .bool x36_11 ∧ Aside0 (word_divided.j2 kq a1 a2 x7_3 x36_11 = some r) ∧ Aside0 (kq ≤ kj5) ∧ Drawn0 w wc)
         case first =>
          have H := HC12.out
          clear HC12
          by_cases c13 : a1 = 2147483648
          ·rw [if_pos c13] at H
           have c13b0 : (a1 == 2147483648) = true := beq_iff_eq.mpr c13
           have c13b1 : (a1 != 2147483648) = false := bne_eq_false_iff_eq.mpr c13
           clear c13
           (first | rw [c13b0] | (simp only [i64_w, i32_w]; rw [c13b0]) | skip)
           by_cases c14 : a2 = 4294967295
           ·rw [if_pos c14] at H
            have c14b0 : (a2 == 4294967295) = true := beq_iff_eq.mpr c14
            have c14b1 : (a2 != 4294967295) = false := bne_eq_false_iff_eq.mpr c14
            clear c14
            have H' := Aside0.mk H
            clear H
            go_wp2
            go_meet
            case rel => exact ⟨_, (x7_3), (by first | rfl | (simp; done) | (simp [*]; done)), H', ⟨by have := HJ3.out; have := HJ5.out; first | omega | exact Nat.le_refl _⟩, by repeat (first | exact Drawn0.refl _ | apply Drawn0.step)⟩
           ·rw [if_neg c14] at H
            have c14b0 : (a2 == 4294967295) = false := beq_eq_false_iff_ne.mpr c14
            have c14b1 : (a2 != 4294967295) = true := bne_iff_ne.mpr c14
            have H' := Aside0.mk H
            clear H
            go_wp2
            go_meet
            case rel => exact ⟨_, (false), (by first | rfl | (simp; done) | (simp [*]; done)), H', ⟨by have := HJ3.out; have := HJ5.out; first | omega | exact Nat.le_refl _⟩, by repeat (first | exact Drawn0.refl _ | apply Drawn0.step)⟩
          ·rw [if_neg c13] at H
           have c13b0 : (a1 == 2147483648) = false := beq_eq_false_iff_ne.mpr c13
           have c13b1 : (a1 != 2147483648) = true := bne_iff_ne.mpr c13
           (first | rw [c13b0] | (simp only [i64_w, i32_w]; rw [c13b0]) | skip)
           have H' := Aside0.mk H
           clear H
           go_wp2
           go_meet
           case rel => exact ⟨_, (false), (by first | rfl | (simp; done) | (simp [*]; done)), H', ⟨by have := HJ3.out; have := HJ5.out; first | omega | exact Nat.le_refl _⟩, by repeat (first | exact Drawn0.refl _ | apply Drawn0.step)⟩
         case rest =>
          clear HC12
          try clear c1
          try clear p2
          try clear c3
          try clear c5
          try clear c5b0
          try clear c5b1
          try clear c7
          try clear c7b0
          try clear c7b1
          try clear c8
          try clear c9
          try clear c9b0
          try clear c9b1
          try clear c10
          try clear c10b0
          try clear c10b1
          try clear c11
          try clear c11b0
          try clear c11b1
          try clear c13
          try clear c13b0
          try clear c13b1
          try clear c14
          try clear c14b0
          try clear c14b1
          try clear p2
          obtain ⟨kq, x36_11, rfl, HA, HJ11, ⟨mc11, rfl⟩⟩ := hcut
          cases kq with
          | zero => exact absurd HA.out (by simp [word_divided.j2])
          | succ kj11 =>
           have H := HA.out
           clear HA
           simp only [word_divided.j2] at H
           by_cases c15 : x36_11 = true
           ·subst c15
            have H1 : (some 0) = some r := by rw [if_pos rfl] at H; exact H
            clear H
            have H := H1
            clear H1
            obtain rfl := Option.some.inj H
            go_wp2
            go_ret
            exact ⟨by first | rfl | (simp; done) | (simp [*]; done), by repeat (first | exact Drawn0.refl _ | apply Drawn0.step)⟩
           ·replace c15 := Bool.eq_false_iff.mpr c15
            subst c15
            have H1 : (if a1 = 2147483648 then (word_divided.j3 kj11 a1 a2 x7_3 (a2 == 4294967295)) else (word_divided.j3 kj11 a1 a2 x7_3 false)) = some r := by rw [if_neg (show ¬ (false = true) by decide)] at H; exact H
            clear H
            have H := H1
            clear H1
            have HC16 := Aside0.mk H
            clear H
            go_upto_region 12 with (fail)
            go_cut [46] (fun v46 wc => ∃ (kq : Nat) (x46_15 : Bool), v46 = .bool x46_15 ∧ Aside0 (word_divided.j3 kq a1 a2 x7_3 x46_15 = some r) ∧ Aside0 (kq ≤ kj11) ∧ Drawn0 w wc)
            case first =>
             have H := HC16.out
             clear HC16
             by_cases c17 : a1 = 2147483648
             ·rw [if_pos c17] at H
              have c17b0 : (a1 == 2147483648) = true := beq_iff_eq.mpr c17
              have c17b1 : (a1 != 2147483648) = false := bne_eq_false_iff_eq.mpr c17
              clear c17
              (first | rw [c17b0] | (simp only [i64_w, i32_w]; rw [c17b0]) | skip)
              have H' := Aside0.mk H
              clear H
              go_wp2
              go_meet
              case rel => exact ⟨_, ((a2 == 4294967295)), (by first | rfl | (simp; done) | (simp [*]; done)), H', ⟨by have := HJ3.out; have := HJ5.out; have := HJ11.out; first | omega | exact Nat.le_refl _⟩, by repeat (first | exact Drawn0.refl _ | apply Drawn0.step)⟩
             ·rw [if_neg c17] at H
              have c17b0 : (a1 == 2147483648) = false := beq_eq_false_iff_ne.mpr c17
              have c17b1 : (a1 != 2147483648) = true := bne_iff_ne.mpr c17
              (first | rw [c17b0] | (simp only [i64_w, i32_w]; rw [c17b0]) | skip)
              have H' := Aside0.mk H
              clear H
              go_wp2
              go_meet
              case rel => exact ⟨_, (false), (by first | rfl | (simp; done) | (simp [*]; done)), H', ⟨by have := HJ3.out; have := HJ5.out; have := HJ11.out; first | omega | exact Nat.le_refl _⟩, by repeat (first | exact Drawn0.refl _ | apply Drawn0.step)⟩
            case rest =>
             clear HC16
             try clear c1
             try clear p2
             try clear c3
             try clear c5
             try clear c5b0
             try clear c5b1
             try clear c7
             try clear c7b0
             try clear c7b1
             try clear c8
             try clear c9
             try clear c9b0
             try clear c9b1
             try clear c10
             try clear c10b0
             try clear c10b1
             try clear c11
             try clear c11b0
             try clear c11b1
             try clear c13
             try clear c13b0
             try clear c13b1
             try clear c14
             try clear c14b0
             try clear c14b1
             try clear c15
             try clear c17
             try clear c17b0
             try clear c17b1
             try clear p2
             obtain ⟨kq, x46_15, rfl, HA, HJ15, ⟨mc15, rfl⟩⟩ := hcut
             cases kq with
             | zero => exact absurd HA.out (by simp [word_divided.j3])
             | succ kj15 =>
              have H := HA.out
              clear HA
              simp only [word_divided.j3] at H
              by_cases c18 : x46_15 = true
              ·subst c18
               have H1 : (some a1) = some r := by rw [if_pos rfl] at H; exact H
               clear H
               have H := H1
               clear H1
               obtain rfl := Option.some.inj H
               go_wp2
               go_ret
               exact ⟨by first | rfl | (simp; done) | (simp [*]; done), by repeat (first | exact Drawn0.refl _ | apply Drawn0.step)⟩
              ·replace c18 := Bool.eq_false_iff.mpr c18
               subst c18
               have H1 : (if x7_3 = true then (if (wrap32 (a2)) = 0 then (none) else (some ((Int.tmod (wrap32 (a1)) (wrap32 (a2))) % 4294967296))) else (if (wrap32 (a2)) = 0 then (none) else (some ((wrap32 (Int.tdiv (wrap32 (a1)) (wrap32 (a2)))) % 4294967296)))) = some r := by rw [if_neg (show ¬ (false = true) by decide)] at H; exact H
               clear H
               have H := H1
               clear H1
               by_cases c19 : x7_3 = true
               ·subst c19
                have H1 : (if (wrap32 (a2)) = 0 then (none) else (some ((Int.tmod (wrap32 (a1)) (wrap32 (a2))) % 4294967296))) = some r := by rw [if_pos rfl] at H; exact H
                clear H
                have H := H1
                clear H1
                by_cases c20 : (wrap32 (a2)) = 0
                ·rw [if_pos c20] at H
                 exact absurd H (by simp)
                ·rw [if_neg c20] at H
                 have c20b0 : ((wrap32 (a2)) == 0) = false := beq_eq_false_iff_ne.mpr c20
                 have c20b1 : ((wrap32 (a2)) != 0) = true := bne_iff_ne.mpr c20
                 obtain rfl := Option.some.inj H
                 go_wp2
                 go_ret
                 exact ⟨by first | rfl | (simp; done) | (simp [*]; done), by repeat (first | exact Drawn0.refl _ | apply Drawn0.step)⟩
               ·replace c19 := Bool.eq_false_iff.mpr c19
                subst c19
                have H1 : (if (wrap32 (a2)) = 0 then (none) else (some ((wrap32 (Int.tdiv (wrap32 (a1)) (wrap32 (a2)))) % 4294967296))) = some r := by rw [if_neg (show ¬ (false = true) by decide)] at H; exact H
                clear H
                have H := H1
                clear H1
                by_cases c21 : (wrap32 (a2)) = 0
                ·rw [if_pos c21] at H
                 exact absurd H (by simp)
                ·rw [if_neg c21] at H
                 have c21b0 : ((wrap32 (a2)) == 0) = false := beq_eq_false_iff_ne.mpr c21
                 have c21b1 : ((wrap32 (a2)) != 0) = true := bne_iff_ne.mpr c21
                 obtain rfl := Option.some.inj H
                 go_wp2
                 go_ret
                 exact ⟨by first | rfl | (simp; done) | (simp [*]; done), by repeat (first | exact Drawn0.refl _ | apply Drawn0.step)⟩
end Go.Proofs.Ytononmcodecmaaa.Q
