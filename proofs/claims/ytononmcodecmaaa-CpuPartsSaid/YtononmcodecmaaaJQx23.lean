import Derived.Test.YtononmcodecmaaaJQx0
import Derived.Test.YtononmcodecmaaaJQx21
namespace Go.Proofs.Ytononmcodecmaaa.Q
open Go.RowKit Go.Proofs.YtononmcodecmaaaW.PrintWords Go.Proofs.YtononmcodecmaaaW.PrintLast Go.Proofs.YtononmcodecmaaaW.PrintMore
attribute [local go_sem] max2_int min2_int max_two min_two max_three min_three max_four min_four   -- for this text's walks alone
attribute [local go_sem] imax_u32 imax_u8 isg_u32 isg_u8
set_option linter.unusedVariables false
set_option linter.unusedSimpArgs false
mutual
def whetstoneref01_div.j0 : Nat → Int → Int → Int → Bool → Option (Int)
 | 0, _, _, _, _ => none
 | k + 1, x0, x1, x2, x7 => if x2 = 0 then (if x7 = true then (some x1) else (some 4294967295)) else (if x0 = 41 then (whetstoneref01_div.j1 k x1 x2 x7 (wrap64 (x1)) (wrap64 (x2)) true) else (whetstoneref01_div.j1 k x1 x2 x7 (wrap64 (x1)) (wrap64 (x2)) (x0 == 43)))
def whetstoneref01_div.j1 : Nat → Int → Int → Bool → Int → Int → Bool → Option (Int)
 | 0, _, _, _, _, _, _ => none
 | k + 1, x1, x2, x7, x8, x9, x29 => if x29 = true then ((whetstoneref01_Num.f x1).bind fun t214 => ((whetstoneref01_Num.f x2).bind fun t215 => (if x7 = true then (if t215 = 0 then (none) else (some ((wrap64 (t214 - (wrap64 ((wrap64 (Int.tdiv t214 t215)) * t215)))) % 4294967296))) else (if t215 = 0 then (none) else (some ((wrap64 (Int.tdiv t214 t215)) % 4294967296)))))) else (if x7 = true then (if x9 = 0 then (none) else (some ((wrap64 (x8 - (wrap64 ((wrap64 (Int.tdiv x8 x9)) * x9)))) % 4294967296))) else (if x9 = 0 then (none) else (some ((wrap64 (Int.tdiv x8 x9)) % 4294967296))))
end
def whetstoneref01_div.f (k : Nat) (a0 : Int) (a1 : Int) (a2 : Int) : Option (Int) := if a0 = 43 then (whetstoneref01_div.j0 k a0 a1 a2 true) else (whetstoneref01_div.j0 k a0 a1 a2 (a0 == 44))
theorem whetstoneref01_div.mono_l : ∀ k, (∀ y0 y1 y2 y3, LeO (whetstoneref01_div.j0 k y0 y1 y2 y3) (whetstoneref01_div.j0 (k + 1) y0 y1 y2 y3)) ∧ (∀ y0 y1 y2 y3 y4 y5, LeO (whetstoneref01_div.j1 k y0 y1 y2 y3 y4 y5) (whetstoneref01_div.j1 (k + 1) y0 y1 y2 y3 y4 y5))
 | 0 => ⟨fun _ _ _ _ r h => by simp [whetstoneref01_div.j0] at h, fun _ _ _ _ _ _ r h => by simp [whetstoneref01_div.j1] at h⟩
 | k + 1 => by
  obtain ⟨ih0, ih1⟩ := whetstoneref01_div.mono_l k
  refine ⟨?_, ?_⟩
  ·intro y0 y1 y2 y3
   unfold whetstoneref01_div.j0
   repeat' first
   | (with_reducible exact ih0 _ _ _ _)
   | (with_reducible exact ih1 _ _ _ _ _ _)
   | (with_reducible exact LeO.refl _)
   | (with_reducible exact LeO.none _)
   | (with_reducible refine LeO.ite ?_ ?_)
   | (with_reducible refine LeO.bind ?_ (fun _ => ?_))
   | exact ih0 _ _ _ _
   | exact ih1 _ _ _ _ _ _
   | exact LeO.none _
   | refine LeO.ite ?_ ?_
   | refine LeO.bind ?_ (fun _ => ?_)
  ·intro y0 y1 y2 y3 y4 y5
   unfold whetstoneref01_div.j1
   repeat' first
   | (with_reducible exact ih0 _ _ _ _)
   | (with_reducible exact ih1 _ _ _ _ _ _)
   | (with_reducible exact LeO.refl _)
   | (with_reducible exact LeO.none _)
   | (with_reducible refine LeO.ite ?_ ?_)
   | (with_reducible refine LeO.bind ?_ (fun _ => ?_))
   | exact ih0 _ _ _ _
   | exact ih1 _ _ _ _ _ _
   | exact LeO.none _
   | refine LeO.ite ?_ ?_
   | refine LeO.bind ?_ (fun _ => ?_)
theorem whetstoneref01_div.mono : ∀ a0 a1 a2 k, LeO (whetstoneref01_div.f k a0 a1 a2) (whetstoneref01_div.f (k + 1) a0 a1 a2) := by
 intro a0 a1 a2 k
 obtain ⟨ih0, ih1⟩ := whetstoneref01_div.mono_l k
 unfold whetstoneref01_div.f
 repeat' first
   | (with_reducible exact ih0 _ _ _ _)
   | (with_reducible exact ih1 _ _ _ _ _ _)
   | (with_reducible exact LeO.refl _)
   | (with_reducible exact LeO.none _)
   | (with_reducible refine LeO.ite ?_ ?_)
   | (with_reducible refine LeO.bind ?_ (fun _ => ?_))
   | exact ih0 _ _ _ _
   | exact ih1 _ _ _ _ _ _
   | exact LeO.none _
   | refine LeO.ite ?_ ?_
   | refine LeO.bind ?_ (fun _ => ?_)
set_option maxHeartbeats 8000000 in
set_option maxRecDepth 100000 in
theorem whetstoneref01_div.calls (k : Nat) (a0 : Int) (a1 : Int) (a2 : Int) (r : Int) (w : World) (h : whetstoneref01_div.f k a0 a1 a2 = some r) :
  Calls Try.prog 62 #[.int .i64 a0, .int .u32 a1, .int .u32 a2] w fun e w' => e = .returned (.int .u32 r) ∧ Drawn0 w w' := by
 have H : (if a0 = 43 then (whetstoneref01_div.j0 k a0 a1 a2 true) else (whetstoneref01_div.j0 k a0 a1 a2 (a0 == 44))) = some r := h
 clear h
 have HC4 := Aside0.mk H
 clear H
 go_enter Try.func62, Try.ntmps62
 go_upto_region 1 with (fail)
 go_cut [7] (fun v7 wc => ∃ (kq : Nat) (x7_3 : Bool), v7 = .bool x7_3 ∧ Aside0 (whetstoneref01_div.j0 kq a0 a1 a2 x7_3 = some r) ∧ Aside0 (kq ≤ k) ∧ Drawn0 w wc)
 case first =>
  have H := HC4.out
  clear HC4
  by_cases c5 : a0 = 43
  ·rw [if_pos c5] at H
   have c5b0 : (a0 == 43) = true := beq_iff_eq.mpr c5
   have c5b1 : (a0 != 43) = false := bne_eq_false_iff_eq.mpr c5
   clear c5
   (first | rw [c5b0] | (simp only [i64_w, i32_w]; rw [c5b0]) | skip)
   have H' := Aside0.mk H
   clear H
   go_wp2
   go_meet
   case rel => exact ⟨_, (true), (by first | rfl | (simp; done) | (simp [*]; done)), H', ⟨by first | omega | exact Nat.le_refl _⟩, by repeat (first | exact Drawn0.refl _ | apply Drawn0.step)⟩
  ·rw [if_neg c5] at H
   have c5b0 : (a0 == 43) = false := beq_eq_false_iff_ne.mpr c5
   have c5b1 : (a0 != 43) = true := bne_iff_ne.mpr c5
   (first | rw [c5b0] | (simp only [i64_w, i32_w]; rw [c5b0]) | skip)
   have H' := Aside0.mk H
   clear H
   go_wp2
   go_meet
   case rel => exact ⟨_, ((a0 == 44)), (by first | rfl | (simp; done) | (simp [*]; done)), H', ⟨by first | omega | exact Nat.le_refl _⟩, by repeat (first | exact Drawn0.refl _ | apply Drawn0.step)⟩
 case rest =>
  clear HC4
  try clear p2
  try clear c5
  try clear c5b0
  try clear c5b1
  obtain ⟨kq, x7_3, rfl, HA, HJ3, ⟨mc3, rfl⟩⟩ := hcut
  cases kq with
  | zero => exact absurd HA.out (by simp [whetstoneref01_div.j0])
  | succ kj3 =>
   have H := HA.out
   clear HA
   simp only [whetstoneref01_div.j0] at H
   by_cases c6 : a2 = 0
   ·rw [if_pos c6] at H
    have c6b0 : (a2 == 0) = true := beq_iff_eq.mpr c6
    have c6b1 : (a2 != 0) = false := bne_eq_false_iff_eq.mpr c6
    clear c6
    by_cases c7 : x7_3 = true
    ·subst c7
     have H1 : (some a1) = some r := by rw [if_pos rfl] at H; exact H
     clear H
     have H := H1
     clear H1
     obtain rfl := Option.some.inj H
     go_wp2
     go_ret
     exact ⟨by first | rfl | (simp; done) | (simp [*]; done), by repeat (first | exact Drawn0.refl _ | apply Drawn0.step)⟩
    ·replace c7 := Bool.eq_false_iff.mpr c7
     subst c7
     have H1 : (some 4294967295) = some r := by rw [if_neg (show ¬ (false = true) by decide)] at H; exact H
     clear H
     have H := H1
     clear H1
     obtain rfl := Option.some.inj H
     go_wp2
     go_ret
     exact ⟨by first | rfl | (simp; done) | (simp [*]; done), by repeat (first | exact Drawn0.refl _ | apply Drawn0.step)⟩
   ·rw [if_neg c6] at H
    have c6b0 : (a2 == 0) = false := beq_eq_false_iff_ne.mpr c6
    have c6b1 : (a2 != 0) = true := bne_iff_ne.mpr c6
    have HC8 := Aside0.mk H
    clear H
    go_upto_region 7 with (fail)
    go_cut [29] (fun v29 wc => ∃ (kq : Nat) (x29_7 : Bool), v29 = .bool x29_7 ∧ Aside0 (whetstoneref01_div.j1 kq a1 a2 x7_3 (wrap64 (a1)) (wrap64 (a2)) x29_7 = some r) ∧ Aside0 (kq ≤ kj3) ∧ Drawn0 w wc)
    case first =>
     have H := HC8.out
     clear HC8
     by_cases c9 : a0 = 41
     ·rw [if_pos c9] at H
      have c9b0 : (a0 == 41) = true := beq_iff_eq.mpr c9
      have c9b1 : (a0 != 41) = false := bne_eq_false_iff_eq.mpr c9
      clear c9
      (first | rw [c9b0] | (simp only [i64_w, i32_w]; rw [c9b0]) | skip)
      have H' := Aside0.mk H
      clear H
      go_wp2
      go_meet
      case rel => exact ⟨_, (true), (by first | rfl | (simp; done) | (simp [*]; done)), H', ⟨by have := HJ3.out; first | omega | exact Nat.le_refl _⟩, by repeat (first | exact Drawn0.refl _ | apply Drawn0.step)⟩
     ·rw [if_neg c9] at H
      have c9b0 : (a0 == 41) = false := beq_eq_false_iff_ne.mpr c9
      have c9b1 : (a0 != 41) = true := bne_iff_ne.mpr c9
      (first | rw [c9b0] | (simp only [i64_w, i32_w]; rw [c9b0]) | skip)
      have H' := Aside0.mk H
      clear H
      go_wp2
      go_meet
      case rel => exact ⟨_, ((a0 == 43)), (by first | rfl | (simp; done) | (simp [*]; done)), H', ⟨by have := HJ3.out; first | omega | exact Nat.le_refl _⟩, by repeat (first | exact Drawn0.refl _ | apply Drawn0.step)⟩
    case rest =>
     clear HC8
     try clear p2
     try clear c3
     try clear c5
     try clear c5b0
     try clear c5b1
     try clear c6
     try clear c6b0
     try clear c6b1
     try clear p6
     try clear c7
     try clear c9
     try clear c9b0
     try clear c9b1
     try clear p2
     obtain ⟨kq, x29_7, rfl, HA, HJ7, ⟨mc7, rfl⟩⟩ := hcut
     cases kq with
     | zero => exact absurd HA.out (by simp [whetstoneref01_div.j1])
     | succ kj7 =>
      have H := HA.out
      clear HA
      simp only [whetstoneref01_div.j1] at H
      by_cases c10 : x29_7 = true
      ·subst c10
       have H1 : ((whetstoneref01_Num.f a1).bind fun t214 => ((whetstoneref01_Num.f a2).bind fun t215 => (if x7_3 = true then (if t215 = 0 then (none) else (some ((wrap64 (t214 - (wrap64 ((wrap64 (Int.tdiv t214 t215)) * t215)))) % 4294967296))) else (if t215 = 0 then (none) else (some ((wrap64 (Int.tdiv t214 t215)) % 4294967296)))))) = some r := by rw [if_pos rfl] at H; exact H
       clear H
       have H := H1
       clear H1
       replace H := Option.bind_eq_some_iff.mp H
       obtain ⟨t214, A110, H⟩ := H
       replace H : ((whetstoneref01_Num.f a2).bind fun t215 => (if x7_3 = true then (if t215 = 0 then (none) else (some ((wrap64 (t214 - (wrap64 ((wrap64 (Int.tdiv t214 t215)) * t215)))) % 4294967296))) else (if t215 = 0 then (none) else (some ((wrap64 (Int.tdiv t214 t215)) % 4294967296))))) = some r := H
       have A11 := Aside0.mk A110
       clear A110
       replace H := Option.bind_eq_some_iff.mp H
       obtain ⟨t215, A120, H⟩ := H
       replace H : (if x7_3 = true then (if t215 = 0 then (none) else (some ((wrap64 (t214 - (wrap64 ((wrap64 (Int.tdiv t214 t215)) * t215)))) % 4294967296))) else (if t215 = 0 then (none) else (some ((wrap64 (Int.tdiv t214 t215)) % 4294967296)))) = some r := H
       have A12 := Aside0.mk A120
       clear A120
       by_cases c13 : x7_3 = true
       ·subst c13
        have H1 : (if t215 = 0 then (none) else (some ((wrap64 (t214 - (wrap64 ((wrap64 (Int.tdiv t214 t215)) * t215)))) % 4294967296))) = some r := by rw [if_pos rfl] at H; exact H
        clear H
        have H := H1
        clear H1
        by_cases c14 : t215 = 0
        ·rw [if_pos c14] at H
         exact absurd H (by simp)
        ·rw [if_neg c14] at H
         have c14b0 : (t215 == 0) = false := beq_eq_false_iff_ne.mpr c14
         have c14b1 : (t215 != 0) = true := bne_iff_ne.mpr c14
         obtain rfl := Option.some.inj H
         go_wp2_with (first | ((with_reducible refine gate_callee (f := 60) rfl ?_); refine goesL_ (some 31) rfl rfl Try.func60 (by kernel_rfl) rfl #[.int .u32 a1] rfl (by (try simp only [List.map_toArray, List.map_cons, List.map_nil]); first | done | rfl | (simp only [List.length_drop, List.length_take]; rfl)) ?_; (with_reducible refine (whetstoneref01_Num.calls a1 t214 _ A11.out).mono ?_); rintro e w' ⟨rfl, ⟨nd, rfl⟩⟩; refine ⟨_, rfl, ?_⟩) | ((with_reducible refine gate_callee (f := 60) rfl ?_); refine goesL_ (some 33) rfl rfl Try.func60 (by kernel_rfl) rfl #[.int .u32 a2] rfl (by (try simp only [List.map_toArray, List.map_cons, List.map_nil]); first | done | rfl | (simp only [List.length_drop, List.length_take]; rfl)) ?_; (with_reducible refine (whetstoneref01_Num.calls a2 t215 _ A12.out).mono ?_); rintro e w' ⟨rfl, ⟨nd, rfl⟩⟩; refine ⟨_, rfl, ?_⟩))
         go_ret
         exact ⟨by first | rfl | (simp; done) | (simp [*]; done), by repeat (first | exact Drawn0.refl _ | apply Drawn0.step)⟩
       ·replace c13 := Bool.eq_false_iff.mpr c13
        subst c13
        have H1 : (if t215 = 0 then (none) else (some ((wrap64 (Int.tdiv t214 t215)) % 4294967296))) = some r := by rw [if_neg (show ¬ (false = true) by decide)] at H; exact H
        clear H
        have H := H1
        clear H1
        by_cases c15 : t215 = 0
        ·rw [if_pos c15] at H
         exact absurd H (by simp)
        ·rw [if_neg c15] at H
         have c15b0 : (t215 == 0) = false := beq_eq_false_iff_ne.mpr c15
         have c15b1 : (t215 != 0) = true := bne_iff_ne.mpr c15
         obtain rfl := Option.some.inj H
         go_wp2_with (first | ((with_reducible refine gate_callee (f := 60) rfl ?_); refine goesL_ (some 31) rfl rfl Try.func60 (by kernel_rfl) rfl #[.int .u32 a1] rfl (by (try simp only [List.map_toArray, List.map_cons, List.map_nil]); first | done | rfl | (simp only [List.length_drop, List.length_take]; rfl)) ?_; (with_reducible refine (whetstoneref01_Num.calls a1 t214 _ A11.out).mono ?_); rintro e w' ⟨rfl, ⟨nd, rfl⟩⟩; refine ⟨_, rfl, ?_⟩) | ((with_reducible refine gate_callee (f := 60) rfl ?_); refine goesL_ (some 33) rfl rfl Try.func60 (by kernel_rfl) rfl #[.int .u32 a2] rfl (by (try simp only [List.map_toArray, List.map_cons, List.map_nil]); first | done | rfl | (simp only [List.length_drop, List.length_take]; rfl)) ?_; (with_reducible refine (whetstoneref01_Num.calls a2 t215 _ A12.out).mono ?_); rintro e w' ⟨rfl, ⟨nd, rfl⟩⟩; refine ⟨_, rfl, ?_⟩))
         go_ret
         exact ⟨by first | rfl | (simp; done) | (simp [*]; done), by repeat (first | exact Drawn0.refl _ | apply Drawn0.step)⟩
      ·replace c10 := Bool.eq_false_iff.mpr c10
       subst c10
       have H1 : (if x7_3 = true then (if (wrap64 (a2)) = 0 then (none) else (some ((wrap64 ((wrap64 (a1)) - (wrap64 ((wrap64 (Int.tdiv (wrap64 (a1)) (wrap64 (a2)))) * (wrap64 (a2)))))) % 4294967296))) else (if (wrap64 (a2)) = 0 then (none) else (some ((wrap64 (Int.tdiv (wrap64 (a1)) (wrap64 (a2)))) % 4294967296)))) = some r := by rw [if_neg (show ¬ (false = true) by decide)] at H; exact H
       clear H
       have H := H1
       clear H1
       by_cases c16 : x7_3 = true
       ·subst c16
        have H1 : (if (wrap64 (a2)) = 0 then (none) else (some ((wrap64 ((wrap64 (a1)) - (wrap64 ((wrap64 (Int.tdiv (wrap64 (a1)) (wrap64 (a2)))) * (wrap64 (a2)))))) % 4294967296))) = some r := by rw [if_pos rfl] at H; exact H
        clear H
        have H := H1
        clear H1
        by_cases c17 : (wrap64 (a2)) = 0
        ·rw [if_pos c17] at H
         exact absurd H (by simp)
        ·rw [if_neg c17] at H
         have c17b0 : ((wrap64 (a2)) == 0) = false := beq_eq_false_iff_ne.mpr c17
         have c17b1 : ((wrap64 (a2)) != 0) = true := bne_iff_ne.mpr c17
         obtain rfl := Option.some.inj H
         go_wp2
         go_ret
         exact ⟨by first | rfl | (simp; done) | (simp [*]; done), by repeat (first | exact Drawn0.refl _ | apply Drawn0.step)⟩
       ·replace c16 := Bool.eq_false_iff.mpr c16
        subst c16
        have H1 : (if (wrap64 (a2)) = 0 then (none) else (some ((wrap64 (Int.tdiv (wrap64 (a1)) (wrap64 (a2)))) % 4294967296))) = some r := by rw [if_neg (show ¬ (false = true) by decide)] at H; exact H
        clear H
        have H := H1
        clear H1
        by_cases c18 : (wrap64 (a2)) = 0
        ·rw [if_pos c18] at H
         exact absurd H (by simp)
        ·rw [if_neg c18] at H
         have c18b0 : ((wrap64 (a2)) == 0) = false := beq_eq_false_iff_ne.mpr c18
         have c18b1 : ((wrap64 (a2)) != 0) = true := bne_iff_ne.mpr c18
         obtain rfl := Option.some.inj H
         go_wp2
         go_ret
         exact ⟨by first | rfl | (simp; done) | (simp [*]; done), by repeat (first | exact Drawn0.refl _ | apply Drawn0.step)⟩
end Go.Proofs.Ytononmcodecmaaa.Q
