import Derived.Test.YtononmcodecmaaaJQx0
import Derived.Test.YtononmcodecmaaaJQx11
import Derived.Test.YtononmcodecmaaaJQx12
import Derived.Test.YtononmcodecmaaaJQx13
namespace Go.Proofs.Ytononmcodecmaaa.Q
open Go.RowKit Go.Proofs.YtononmcodecmaaaW.PrintWords Go.Proofs.YtononmcodecmaaaW.PrintLast Go.Proofs.YtononmcodecmaaaW.PrintMore
attribute [local go_sem] max2_int min2_int max_two min_two max_three min_three max_four min_four   -- for this text's walks alone
attribute [local go_sem] imax_u32 imax_u8 isg_u32 isg_u8
set_option linter.unusedVariables false
set_option linter.unusedSimpArgs false
def word_Do.j0 : Nat → Int → Int → Int → Int → Bool → Option (Int × Int)
 | 0, _, _, _, _, _ => none
 | k + 1, x0, x1, x2, x8, x73 => if x73 = true then ((word_high.f x0 x1 x2).bind fun t130 => (some (t130, 0))) else (if x8 = 41 then ((word_divided.f k x0 x1 x2).bind fun t131 => (some (t131, 0))) else (if x8 = 42 then ((word_divided.f k x0 x1 x2).bind fun t132 => (some (t132, 0))) else (if x8 = 43 then ((word_divided.f k x0 x1 x2).bind fun t133 => (some (t133, 0))) else (if x8 = 44 then ((word_divided.f k x0 x1 x2).bind fun t134 => (some (t134, 0))) else (some (0, 1))))))
def word_Do.f (k : Nat) (a0 : Int) (a1 : Int) (a2 : Int) : Option (Int × Int) := if a0 = 27 then (some ((a1 + a2) % 4294967296, 0)) else (if a0 = 28 then (some ((a1 - a2) % 4294967296, 0)) else (if a0 = 36 then (some (Go.bits .and .u32 a1 a2, 0)) else (if a0 = 35 then (some (Go.bits .or .u32 a1 a2, 0)) else (if a0 = 32 then (some (Go.bits .xor .u32 a1 a2, 0)) else (if a0 = 29 then (if 0 ≤ (Go.bits .and .u32 a2 31) then (some (shl .u32 a1 (Go.bits .and .u32 a2 31), 0)) else (none)) else (if a0 = 33 then (if 0 ≤ (Go.bits .and .u32 a2 31) then (some (shr .u32 a1 (Go.bits .and .u32 a2 31), 0)) else (none)) else (if a0 = 34 then (if 0 ≤ (Go.bits .and .u32 a2 31) then (some ((shr .i32 (wrap32 (a1)) (Go.bits .and .u32 a2 31)) % 4294967296, 0)) else (none)) else (if a0 = 30 then ((word_flag.f (decide ((wrap32 (a1)) < (wrap32 (a2))))).bind fun t128 => (some (t128, 0))) else (if a0 = 31 then ((word_flag.f (decide (a1 < a2))).bind fun t129 => (some (t129, 0))) else (if a0 = 37 then (some ((a1 * a2) % 4294967296, 0)) else (if a0 = 38 then (word_Do.j0 k a0 a1 a2 a0 (a0 == 38)) else (if a0 = 40 then (word_Do.j0 k a0 a1 a2 a0 (a0 == 40)) else (word_Do.j0 k a0 a1 a2 a0 (a0 == 39))))))))))))))
theorem word_Do.mono_l : ∀ k, (∀ y0 y1 y2 y3 y4, LeO (word_Do.j0 k y0 y1 y2 y3 y4) (word_Do.j0 (k + 1) y0 y1 y2 y3 y4))
 | 0 => fun _ _ _ _ _ r h => by simp [word_Do.j0] at h
 | k + 1 => by
  have ih0 := word_Do.mono_l k
  ·intro y0 y1 y2 y3 y4
   unfold word_Do.j0
   repeat' first
   | (with_reducible exact ih0 _ _ _ _ _)
   | (with_reducible exact word_divided.mono _ _ _ _)
   | (with_reducible exact LeO.refl _)
   | (with_reducible exact LeO.none _)
   | (with_reducible refine LeO.ite ?_ ?_)
   | (with_reducible refine LeO.bind ?_ (fun _ => ?_))
   | exact ih0 _ _ _ _ _
   | exact word_divided.mono _ _ _ _
   | exact LeO.none _
   | refine LeO.ite ?_ ?_
   | refine LeO.bind ?_ (fun _ => ?_)
theorem word_Do.mono : ∀ a0 a1 a2 k, LeO (word_Do.f k a0 a1 a2) (word_Do.f (k + 1) a0 a1 a2) := by
 intro a0 a1 a2 k
 have ih0 := word_Do.mono_l k
 unfold word_Do.f
 repeat' first
   | (with_reducible exact ih0 _ _ _ _ _)
   | (with_reducible exact word_divided.mono _ _ _ _)
   | (with_reducible exact LeO.refl _)
   | (with_reducible exact LeO.none _)
   | (with_reducible refine LeO.ite ?_ ?_)
   | (with_reducible refine LeO.bind ?_ (fun _ => ?_))
   | exact ih0 _ _ _ _ _
   | exact word_divided.mono _ _ _ _
   | exact LeO.none _
   | refine LeO.ite ?_ ?_
   | refine LeO.bind ?_ (fun _ => ?_)
set_option maxHeartbeats 8000000 in
set_option maxRecDepth 100000 in
theorem word_Do.calls (k : Nat) (a0 : Int) (a1 : Int) (a2 : Int) (r1 : Int) (r2 : Int) (w : World) (h : word_Do.f k a0 a1 a2 = some (r1, r2)) :
  Calls Try.prog 53 #[.int .i64 a0, .int .u32 a1, .int .u32 a2] w fun e w' => e = .returned (.tuple #[.int .u32 r1, .int .i64 r2]) ∧ Drawn0 w w' := by
 have H : (if a0 = 27 then (some ((a1 + a2) % 4294967296, 0)) else (if a0 = 28 then (some ((a1 - a2) % 4294967296, 0)) else (if a0 = 36 then (some (Go.bits .and .u32 a1 a2, 0)) else (if a0 = 35 then (some (Go.bits .or .u32 a1 a2, 0)) else (if a0 = 32 then (some (Go.bits .xor .u32 a1 a2, 0)) else (if a0 = 29 then (if 0 ≤ (Go.bits .and .u32 a2 31) then (some (shl .u32 a1 (Go.bits .and .u32 a2 31), 0)) else (none)) else (if a0 = 33 then (if 0 ≤ (Go.bits .and .u32 a2 31) then (some (shr .u32 a1 (Go.bits .and .u32 a2 31), 0)) else (none)) else (if a0 = 34 then (if 0 ≤ (Go.bits .and .u32 a2 31) then (some ((shr .i32 (wrap32 (a1)) (Go.bits .and .u32 a2 31)) % 4294967296, 0)) else (none)) else (if a0 = 30 then ((word_flag.f (decide ((wrap32 (a1)) < (wrap32 (a2))))).bind fun t128 => (some (t128, 0))) else (if a0 = 31 then ((word_flag.f (decide (a1 < a2))).bind fun t129 => (some (t129, 0))) else (if a0 = 37 then (some ((a1 * a2) % 4294967296, 0)) else (if a0 = 38 then (word_Do.j0 k a0 a1 a2 a0 (a0 == 38)) else (if a0 = 40 then (word_Do.j0 k a0 a1 a2 a0 (a0 == 40)) else (word_Do.j0 k a0 a1 a2 a0 (a0 == 39))))))))))))))) = some (r1, r2) := h
 clear h
 by_cases c4 : a0 = 27
 ·rw [if_pos c4] at H
  have c4b0 : (a0 == 27) = true := beq_iff_eq.mpr c4
  have c4b1 : (a0 != 27) = false := bne_eq_false_iff_eq.mpr c4
  clear c4
  simp only [Option.some.injEq, Prod.mk.injEq] at H
  obtain ⟨rfl, rfl⟩ := H
  go_enter Try.func53, Try.ntmps53
  go_wp2
  go_ret2
  exact ⟨by first | rfl | (simp; done) | (simp [*]; done), by repeat (first | exact Drawn0.refl _ | apply Drawn0.step)⟩
 ·rw [if_neg c4] at H
  have c4b0 : (a0 == 27) = false := beq_eq_false_iff_ne.mpr c4
  have c4b1 : (a0 != 27) = true := bne_iff_ne.mpr c4
  by_cases c5 : a0 = 28
  ·rw [if_pos c5] at H
   have c5b0 : (a0 == 28) = true := beq_iff_eq.mpr c5
   have c5b1 : (a0 != 28) = false := bne_eq_false_iff_eq.mpr c5
   clear c5
   simp only [Option.some.injEq, Prod.mk.injEq] at H
   obtain ⟨rfl, rfl⟩ := H
   go_enter Try.func53, Try.ntmps53
   go_wp2
   go_ret2
   exact ⟨by first | rfl | (simp; done) | (simp [*]; done), by repeat (first | exact Drawn0.refl _ | apply Drawn0.step)⟩
  ·rw [if_neg c5] at H
   have c5b0 : (a0 == 28) = false := beq_eq_false_iff_ne.mpr c5
   have c5b1 : (a0 != 28) = true := bne_iff_ne.mpr c5
   by_cases c6 : a0 = 36
   ·rw [if_pos c6] at H
    have c6b0 : (a0 == 36) = true := beq_iff_eq.mpr c6
    have c6b1 : (a0 != 36) = false := bne_eq_false_iff_eq.mpr c6
    clear c6
    simp only [Option.some.injEq, Prod.mk.injEq] at H
    obtain ⟨rfl, rfl⟩ := H
    go_enter Try.func53, Try.ntmps53
    go_wp2
    go_ret2
    exact ⟨by first | rfl | (simp; done) | (simp [*]; done), by repeat (first | exact Drawn0.refl _ | apply Drawn0.step)⟩
   ·rw [if_neg c6] at H
    have c6b0 : (a0 == 36) = false := beq_eq_false_iff_ne.mpr c6
    have c6b1 : (a0 != 36) = true := bne_iff_ne.mpr c6
    by_cases c7 : a0 = 35
    ·rw [if_pos c7] at H
     have c7b0 : (a0 == 35) = true := beq_iff_eq.mpr c7
     have c7b1 : (a0 != 35) = false := bne_eq_false_iff_eq.mpr c7
     clear c7
     simp only [Option.some.injEq, Prod.mk.injEq] at H
     obtain ⟨rfl, rfl⟩ := H
     go_enter Try.func53, Try.ntmps53
     go_wp2
     go_ret2
     exact ⟨by first | rfl | (simp; done) | (simp [*]; done), by repeat (first | exact Drawn0.refl _ | apply Drawn0.step)⟩
    ·rw [if_neg c7] at H
     have c7b0 : (a0 == 35) = false := beq_eq_false_iff_ne.mpr c7
     have c7b1 : (a0 != 35) = true := bne_iff_ne.mpr c7
     by_cases c8 : a0 = 32
     ·rw [if_pos c8] at H
      have c8b0 : (a0 == 32) = true := beq_iff_eq.mpr c8
      have c8b1 : (a0 != 32) = false := bne_eq_false_iff_eq.mpr c8
      clear c8
      simp only [Option.some.injEq, Prod.mk.injEq] at H
      obtain ⟨rfl, rfl⟩ := H
      go_enter Try.func53, Try.ntmps53
      go_wp2
      go_ret2
      exact ⟨by first | rfl | (simp; done) | (simp [*]; done), by repeat (first | exact Drawn0.refl _ | apply Drawn0.step)⟩
     ·rw [if_neg c8] at H
      have c8b0 : (a0 == 32) = false := beq_eq_false_iff_ne.mpr c8
      have c8b1 : (a0 != 32) = true := bne_iff_ne.mpr c8
      by_cases c9 : a0 = 29
      ·rw [if_pos c9] at H
       have c9b0 : (a0 == 29) = true := beq_iff_eq.mpr c9
       have c9b1 : (a0 != 29) = false := bne_eq_false_iff_eq.mpr c9
       clear c9
       by_cases c10 : 0 ≤ (Go.bits .and .u32 a2 31)
       ·rw [if_pos c10] at H
        have c10b0 := eq_true c10
        have c10b1 : decide (0 ≤ (Go.bits .and .u32 a2 31)) = true := decide_eq_true c10
        clear c10
        obtain ⟨ji11, hji11⟩ : ∃ j_ : Int, (shl .u32 a1 (Go.bits .and .u32 a2 31)) = j_ := ⟨_, rfl⟩
        replace H : (some (ji11, 0)) = some (r1, r2) := by first | (rw [hji11] at H; exact H) | (simp only [hji11] at H ⊢; exact H)
        have hji11_ : (IntKind.u32.wrap (a1 * 2 ^ min (Go.bits .and .u32 a2 31).toNat 32)) = ji11 := hji11
        have hji11z : (Go.bits .and .u32 a2 31) ≤ 32 → (IntKind.u32.wrap (a1 * 2 ^ (Go.bits .and .u32 a2 31).toNat)) = ji11 := shl_small hji11
        simp only [Option.some.injEq, Prod.mk.injEq] at H
        obtain ⟨rfl, rfl⟩ := H
        go_enter Try.func53, Try.ntmps53
        go_wp2
        go_ret2
        exact ⟨by first | rfl | (simp; done) | (simp only [← hji11] <;> (first | rfl | simp)) | (simp [*]; done), by repeat (first | exact Drawn0.refl _ | apply Drawn0.step)⟩
       ·rw [if_neg c10] at H
        exact absurd H (by simp)
      ·rw [if_neg c9] at H
       have c9b0 : (a0 == 29) = false := beq_eq_false_iff_ne.mpr c9
       have c9b1 : (a0 != 29) = true := bne_iff_ne.mpr c9
       by_cases c12 : a0 = 33
       ·rw [if_pos c12] at H
        have c12b0 : (a0 == 33) = true := beq_iff_eq.mpr c12
        have c12b1 : (a0 != 33) = false := bne_eq_false_iff_eq.mpr c12
        clear c12
        by_cases c13 : 0 ≤ (Go.bits .and .u32 a2 31)
        ·rw [if_pos c13] at H
         have c13b0 := eq_true c13
         have c13b1 : decide (0 ≤ (Go.bits .and .u32 a2 31)) = true := decide_eq_true c13
         clear c13
         obtain ⟨ji14, hji14⟩ : ∃ j_ : Int, (shr .u32 a1 (Go.bits .and .u32 a2 31)) = j_ := ⟨_, rfl⟩
         replace H : (some (ji14, 0)) = some (r1, r2) := by first | (rw [hji14] at H; exact H) | (simp only [hji14] at H ⊢; exact H)
         have hji14_ : (a1 / 2 ^ min (Go.bits .and .u32 a2 31).toNat 32) = ji14 := hji14
         have hji14z : (Go.bits .and .u32 a2 31) ≤ 32 → (a1 / 2 ^ (Go.bits .and .u32 a2 31).toNat) = ji14 := shr_small hji14
         simp only [Option.some.injEq, Prod.mk.injEq] at H
         obtain ⟨rfl, rfl⟩ := H
         go_enter Try.func53, Try.ntmps53
         go_wp2
         go_ret2
         exact ⟨by first | rfl | (simp; done) | (simp only [← hji14] <;> (first | rfl | simp)) | (simp [*]; done), by repeat (first | exact Drawn0.refl _ | apply Drawn0.step)⟩
        ·rw [if_neg c13] at H
         exact absurd H (by simp)
       ·rw [if_neg c12] at H
        have c12b0 : (a0 == 33) = false := beq_eq_false_iff_ne.mpr c12
        have c12b1 : (a0 != 33) = true := bne_iff_ne.mpr c12
        by_cases c15 : a0 = 34
        ·rw [if_pos c15] at H
         have c15b0 : (a0 == 34) = true := beq_iff_eq.mpr c15
         have c15b1 : (a0 != 34) = false := bne_eq_false_iff_eq.mpr c15
         clear c15
         by_cases c16 : 0 ≤ (Go.bits .and .u32 a2 31)
         ·rw [if_pos c16] at H
          have c16b0 := eq_true c16
          have c16b1 : decide (0 ≤ (Go.bits .and .u32 a2 31)) = true := decide_eq_true c16
          clear c16
          obtain ⟨ji17, hji17⟩ : ∃ j_ : Int, (shr .i32 (wrap32 (a1)) (Go.bits .and .u32 a2 31)) = j_ := ⟨_, rfl⟩
          replace H : (some ((ji17) % 4294967296, 0)) = some (r1, r2) := by first | (rw [hji17] at H; exact H) | (simp only [hji17] at H ⊢; exact H)
          have hji17_ : ((wrap32 (a1)) / 2 ^ min (Go.bits .and .u32 a2 31).toNat 32) = ji17 := hji17
          have hji17z : (Go.bits .and .u32 a2 31) ≤ 32 → ((wrap32 (a1)) / 2 ^ (Go.bits .and .u32 a2 31).toNat) = ji17 := shr_small hji17
          simp only [Option.some.injEq, Prod.mk.injEq] at H
          obtain ⟨rfl, rfl⟩ := H
          go_enter Try.func53, Try.ntmps53
          go_wp2
          go_ret2
          exact ⟨by first | rfl | (simp; done) | (simp only [← hji17] <;> (first | rfl | simp)) | (simp [*]; done), by repeat (first | exact Drawn0.refl _ | apply Drawn0.step)⟩
         ·rw [if_neg c16] at H
          exact absurd H (by simp)
        ·rw [if_neg c15] at H
         have c15b0 : (a0 == 34) = false := beq_eq_false_iff_ne.mpr c15
         have c15b1 : (a0 != 34) = true := bne_iff_ne.mpr c15
         by_cases c18 : a0 = 30
         ·rw [if_pos c18] at H
          have c18b0 : (a0 == 30) = true := beq_iff_eq.mpr c18
          have c18b1 : (a0 != 30) = false := bne_eq_false_iff_eq.mpr c18
          clear c18
          replace H := Option.bind_eq_some_iff.mp H
          obtain ⟨t128, A190, H⟩ := H
          replace H : (some (t128, 0)) = some (r1, r2) := H
          have A19 := Aside0.mk A190
          clear A190
          simp only [Option.some.injEq, Prod.mk.injEq] at H
          obtain ⟨rfl, rfl⟩ := H
          go_enter Try.func53, Try.ntmps53
          go_wp2_with (first | ((with_reducible refine gate_callee (f := 76) rfl ?_); refine goesL_ (some 61) rfl rfl Try.func76 (by kernel_rfl) rfl #[.bool (decide ((wrap32 (a1)) < (wrap32 (a2))))] rfl (by (try simp only [List.map_toArray, List.map_cons, List.map_nil]); first | done | rfl | (simp only [List.length_drop, List.length_take]; rfl)) ?_; (with_reducible refine (word_flag.calls (decide ((wrap32 (a1)) < (wrap32 (a2)))) t128 _ A19.out).mono ?_); rintro e w' ⟨rfl, ⟨nd, rfl⟩⟩; refine ⟨_, rfl, ?_⟩))
          go_ret2
          exact ⟨by first | rfl | (simp; done) | (simp [*]; done), by repeat (first | exact Drawn0.refl _ | apply Drawn0.step)⟩
         ·rw [if_neg c18] at H
          have c18b0 : (a0 == 30) = false := beq_eq_false_iff_ne.mpr c18
          have c18b1 : (a0 != 30) = true := bne_iff_ne.mpr c18
          by_cases c20 : a0 = 31
          ·rw [if_pos c20] at H
           have c20b0 : (a0 == 31) = true := beq_iff_eq.mpr c20
           have c20b1 : (a0 != 31) = false := bne_eq_false_iff_eq.mpr c20
           clear c20
           replace H := Option.bind_eq_some_iff.mp H
           obtain ⟨t129, A210, H⟩ := H
           replace H : (some (t129, 0)) = some (r1, r2) := H
           have A21 := Aside0.mk A210
           clear A210
           simp only [Option.some.injEq, Prod.mk.injEq] at H
           obtain ⟨rfl, rfl⟩ := H
           go_enter Try.func53, Try.ntmps53
           go_wp2_with (first | ((with_reducible refine gate_callee (f := 76) rfl ?_); refine goesL_ (some 67) rfl rfl Try.func76 (by kernel_rfl) rfl #[.bool (decide (a1 < a2))] rfl (by (try simp only [List.map_toArray, List.map_cons, List.map_nil]); first | done | rfl | (simp only [List.length_drop, List.length_take]; rfl)) ?_; (with_reducible refine (word_flag.calls (decide (a1 < a2)) t129 _ A21.out).mono ?_); rintro e w' ⟨rfl, ⟨nd, rfl⟩⟩; refine ⟨_, rfl, ?_⟩))
           go_ret2
           exact ⟨by first | rfl | (simp; done) | (simp [*]; done), by repeat (first | exact Drawn0.refl _ | apply Drawn0.step)⟩
          ·rw [if_neg c20] at H
           have c20b0 : (a0 == 31) = false := beq_eq_false_iff_ne.mpr c20
           have c20b1 : (a0 != 31) = true := bne_iff_ne.mpr c20
           by_cases c22 : a0 = 37
           ·rw [if_pos c22] at H
            have c22b0 : (a0 == 37) = true := beq_iff_eq.mpr c22
            have c22b1 : (a0 != 37) = false := bne_eq_false_iff_eq.mpr c22
            clear c22
            simp only [Option.some.injEq, Prod.mk.injEq] at H
            obtain ⟨rfl, rfl⟩ := H
            go_enter Try.func53, Try.ntmps53
            go_wp2
            go_ret2
            exact ⟨by first | rfl | (simp; done) | (simp [*]; done), by repeat (first | exact Drawn0.refl _ | apply Drawn0.step)⟩
           ·rw [if_neg c22] at H
            have c22b0 : (a0 == 37) = false := beq_eq_false_iff_ne.mpr c22
            have c22b1 : (a0 != 37) = true := bne_iff_ne.mpr c22
            have HC23 := Aside0.mk H
            clear H
            go_enter Try.func53, Try.ntmps53
            go_upto_if 73 with (fail)
            go_cut [73] (fun v73 wc => ∃ (kq : Nat) (x73_22 : Bool), v73 = .bool x73_22 ∧ Aside0 (word_Do.j0 kq a0 a1 a2 a0 x73_22 = some (r1, r2)) ∧ Aside0 (kq ≤ k) ∧ Drawn0 w wc)
            case first =>
             have H := HC23.out
             clear HC23
             by_cases c24 : a0 = 38
             ·rw [if_pos c24] at H
              have c24b0 : (a0 == 38) = true := beq_iff_eq.mpr c24
              have c24b1 : (a0 != 38) = false := bne_eq_false_iff_eq.mpr c24
              clear c24
              (first | rw [c24b0] | (simp only [i64_w, i32_w]; rw [c24b0]) | skip)
              have H' := Aside0.mk H
              clear H
              go_wp2
              go_meet
              case rel => exact ⟨_, ((a0 == 38)), (by first | rfl | (simp; done) | (simp [*]; done)), H', ⟨by first | omega | exact Nat.le_refl _⟩, by repeat (first | exact Drawn0.refl _ | apply Drawn0.step)⟩
             ·rw [if_neg c24] at H
              have c24b0 : (a0 == 38) = false := beq_eq_false_iff_ne.mpr c24
              have c24b1 : (a0 != 38) = true := bne_iff_ne.mpr c24
              (first | rw [c24b0] | (simp only [i64_w, i32_w]; rw [c24b0]) | skip)
              by_cases c25 : a0 = 40
              ·rw [if_pos c25] at H
               have c25b0 : (a0 == 40) = true := beq_iff_eq.mpr c25
               have c25b1 : (a0 != 40) = false := bne_eq_false_iff_eq.mpr c25
               clear c25
               have H' := Aside0.mk H
               clear H
               go_wp2
               go_meet
               case rel => exact ⟨_, ((a0 == 40)), (by first | rfl | (simp; done) | (simp [*]; done)), H', ⟨by first | omega | exact Nat.le_refl _⟩, by repeat (first | exact Drawn0.refl _ | apply Drawn0.step)⟩
              ·rw [if_neg c25] at H
               have c25b0 : (a0 == 40) = false := beq_eq_false_iff_ne.mpr c25
               have c25b1 : (a0 != 40) = true := bne_iff_ne.mpr c25
               have H' := Aside0.mk H
               clear H
               go_wp2
               go_meet
               case rel => exact ⟨_, ((a0 == 39)), (by first | rfl | (simp; done) | (simp [*]; done)), H', ⟨by first | omega | exact Nat.le_refl _⟩, by repeat (first | exact Drawn0.refl _ | apply Drawn0.step)⟩
            case rest =>
             clear HC23
             try clear c1
             try clear c2
             try clear p2
             try clear p3
             try clear c4
             try clear c4b0
             try clear c4b1
             try clear c5
             try clear c5b0
             try clear c5b1
             try clear c6
             try clear c6b0
             try clear c6b1
             try clear c7
             try clear c7b0
             try clear c7b1
             try clear c8
             try clear c8b0
             try clear c8b1
             try clear c9
             try clear c9b0
             try clear c9b1
             try clear c10
             try clear c10b0
             try clear c10b1
             try clear c12
             try clear c12b0
             try clear c12b1
             try clear c13
             try clear c13b0
             try clear c13b1
             try clear c15
             try clear c15b0
             try clear c15b1
             try clear c16
             try clear c16b0
             try clear c16b1
             try clear c18
             try clear c18b0
             try clear c18b1
             try clear c20
             try clear c20b0
             try clear c20b1
             try clear c22
             try clear c22b0
             try clear c22b1
             try clear c24
             try clear c24b0
             try clear c24b1
             try clear c25
             try clear c25b0
             try clear c25b1
             obtain ⟨kq, x73_22, rfl, HA, HJ22, ⟨mc22, rfl⟩⟩ := hcut
             cases kq with
             | zero => exact absurd HA.out (by simp [word_Do.j0])
             | succ kj22 =>
              have H := HA.out
              clear HA
              simp only [word_Do.j0] at H
              by_cases c26 : x73_22 = true
              ·subst c26
               have H1 : ((word_high.f a0 a1 a2).bind fun t130 => (some (t130, 0))) = some (r1, r2) := by rw [if_pos rfl] at H; exact H
               clear H
               have H := H1
               clear H1
               replace H := Option.bind_eq_some_iff.mp H
               obtain ⟨t130, A270, H⟩ := H
               replace H : (some (t130, 0)) = some (r1, r2) := H
               have A27 := Aside0.mk A270
               clear A270
               simp only [Option.some.injEq, Prod.mk.injEq] at H
               obtain ⟨rfl, rfl⟩ := H
               go_wp2_with (first | ((with_reducible refine gate_callee (f := 77) rfl ?_); refine goesL_ (some 80) rfl rfl Try.func77 (by kernel_rfl) rfl #[.int .i64 a0, .int .u32 a1, .int .u32 a2] rfl (by (try simp only [List.map_toArray, List.map_cons, List.map_nil]); first | done | rfl | (simp only [List.length_drop, List.length_take]; rfl)) ?_; (with_reducible refine (word_high.calls a0 a1 a2 t130 _ A27.out).mono ?_); rintro e w' ⟨rfl, ⟨nd, rfl⟩⟩; refine ⟨_, rfl, ?_⟩))
               go_ret2
               exact ⟨by first | rfl | (simp; done) | (simp [*]; done), by repeat (first | exact Drawn0.refl _ | apply Drawn0.step)⟩
              ·replace c26 := Bool.eq_false_iff.mpr c26
               subst c26
               have H1 : (if a0 = 41 then ((word_divided.f kj22 a0 a1 a2).bind fun t131 => (some (t131, 0))) else (if a0 = 42 then ((word_divided.f kj22 a0 a1 a2).bind fun t132 => (some (t132, 0))) else (if a0 = 43 then ((word_divided.f kj22 a0 a1 a2).bind fun t133 => (some (t133, 0))) else (if a0 = 44 then ((word_divided.f kj22 a0 a1 a2).bind fun t134 => (some (t134, 0))) else (some (0, 1)))))) = some (r1, r2) := by rw [if_neg (show ¬ (false = true) by decide)] at H; exact H
               clear H
               have H := H1
               clear H1
               by_cases c28 : a0 = 41
               ·rw [if_pos c28] at H
                have c28b0 : (a0 == 41) = true := beq_iff_eq.mpr c28
                have c28b1 : (a0 != 41) = false := bne_eq_false_iff_eq.mpr c28
                clear c28
                replace H := Option.bind_eq_some_iff.mp H
                obtain ⟨t131, A290, H⟩ := H
                replace H : (some (t131, 0)) = some (r1, r2) := H
                have A29 := Aside0.mk A290
                clear A290
                simp only [Option.some.injEq, Prod.mk.injEq] at H
                obtain ⟨rfl, rfl⟩ := H
                go_wp2_with (first | ((with_reducible refine gate_callee (f := 78) rfl ?_); refine goesL_ (some 89) rfl rfl Try.func78 (by kernel_rfl) rfl #[.int .i64 a0, .int .u32 a1, .int .u32 a2] rfl (by (try simp only [List.map_toArray, List.map_cons, List.map_nil]); first | done | rfl | (simp only [List.length_drop, List.length_take]; rfl)) ?_; (with_reducible refine (word_divided.calls kj22 a0 a1 a2 t131 _ A29.out).mono ?_); rintro e w' ⟨rfl, ⟨nd, rfl⟩⟩; refine ⟨_, rfl, ?_⟩))
                go_ret2
                exact ⟨by first | rfl | (simp; done) | (simp [*]; done), by repeat (first | exact Drawn0.refl _ | apply Drawn0.step)⟩
               ·rw [if_neg c28] at H
                have c28b0 : (a0 == 41) = false := beq_eq_false_iff_ne.mpr c28
                have c28b1 : (a0 != 41) = true := bne_iff_ne.mpr c28
                by_cases c30 : a0 = 42
                ·rw [if_pos c30] at H
                 have c30b0 : (a0 == 42) = true := beq_iff_eq.mpr c30
                 have c30b1 : (a0 != 42) = false := bne_eq_false_iff_eq.mpr c30
                 clear c30
                 replace H := Option.bind_eq_some_iff.mp H
                 obtain ⟨t132, A310, H⟩ := H
                 replace H : (some (t132, 0)) = some (r1, r2) := H
                 have A31 := Aside0.mk A310
                 clear A310
                 simp only [Option.some.injEq, Prod.mk.injEq] at H
                 obtain ⟨rfl, rfl⟩ := H
                 go_wp2_with (first | ((with_reducible refine gate_callee (f := 78) rfl ?_); refine goesL_ (some 89) rfl rfl Try.func78 (by kernel_rfl) rfl #[.int .i64 a0, .int .u32 a1, .int .u32 a2] rfl (by (try simp only [List.map_toArray, List.map_cons, List.map_nil]); first | done | rfl | (simp only [List.length_drop, List.length_take]; rfl)) ?_; (with_reducible refine (word_divided.calls kj22 a0 a1 a2 t132 _ A31.out).mono ?_); rintro e w' ⟨rfl, ⟨nd, rfl⟩⟩; refine ⟨_, rfl, ?_⟩))
                 go_ret2
                 exact ⟨by first | rfl | (simp; done) | (simp [*]; done), by repeat (first | exact Drawn0.refl _ | apply Drawn0.step)⟩
                ·rw [if_neg c30] at H
                 have c30b0 : (a0 == 42) = false := beq_eq_false_iff_ne.mpr c30
                 have c30b1 : (a0 != 42) = true := bne_iff_ne.mpr c30
                 by_cases c32 : a0 = 43
                 ·rw [if_pos c32] at H
                  have c32b0 : (a0 == 43) = true := beq_iff_eq.mpr c32
                  have c32b1 : (a0 != 43) = false := bne_eq_false_iff_eq.mpr c32
                  clear c32
                  replace H := Option.bind_eq_some_iff.mp H
                  obtain ⟨t133, A330, H⟩ := H
                  replace H : (some (t133, 0)) = some (r1, r2) := H
                  have A33 := Aside0.mk A330
                  clear A330
                  simp only [Option.some.injEq, Prod.mk.injEq] at H
                  obtain ⟨rfl, rfl⟩ := H
                  go_wp2_with (first | ((with_reducible refine gate_callee (f := 78) rfl ?_); refine goesL_ (some 89) rfl rfl Try.func78 (by kernel_rfl) rfl #[.int .i64 a0, .int .u32 a1, .int .u32 a2] rfl (by (try simp only [List.map_toArray, List.map_cons, List.map_nil]); first | done | rfl | (simp only [List.length_drop, List.length_take]; rfl)) ?_; (with_reducible refine (word_divided.calls kj22 a0 a1 a2 t133 _ A33.out).mono ?_); rintro e w' ⟨rfl, ⟨nd, rfl⟩⟩; refine ⟨_, rfl, ?_⟩))
                  go_ret2
                  exact ⟨by first | rfl | (simp; done) | (simp [*]; done), by repeat (first | exact Drawn0.refl _ | apply Drawn0.step)⟩
                 ·rw [if_neg c32] at H
                  have c32b0 : (a0 == 43) = false := beq_eq_false_iff_ne.mpr c32
                  have c32b1 : (a0 != 43) = true := bne_iff_ne.mpr c32
                  by_cases c34 : a0 = 44
                  ·rw [if_pos c34] at H
                   have c34b0 : (a0 == 44) = true := beq_iff_eq.mpr c34
                   have c34b1 : (a0 != 44) = false := bne_eq_false_iff_eq.mpr c34
                   clear c34
                   replace H := Option.bind_eq_some_iff.mp H
                   obtain ⟨t134, A350, H⟩ := H
                   replace H : (some (t134, 0)) = some (r1, r2) := H
                   have A35 := Aside0.mk A350
                   clear A350
                   simp only [Option.some.injEq, Prod.mk.injEq] at H
                   obtain ⟨rfl, rfl⟩ := H
                   go_wp2_with (first | ((with_reducible refine gate_callee (f := 78) rfl ?_); refine goesL_ (some 89) rfl rfl Try.func78 (by kernel_rfl) rfl #[.int .i64 a0, .int .u32 a1, .int .u32 a2] rfl (by (try simp only [List.map_toArray, List.map_cons, List.map_nil]); first | done | rfl | (simp only [List.length_drop, List.length_take]; rfl)) ?_; (with_reducible refine (word_divided.calls kj22 a0 a1 a2 t134 _ A35.out).mono ?_); rintro e w' ⟨rfl, ⟨nd, rfl⟩⟩; refine ⟨_, rfl, ?_⟩))
                   go_ret2
                   exact ⟨by first | rfl | (simp; done) | (simp [*]; done), by repeat (first | exact Drawn0.refl _ | apply Drawn0.step)⟩
                  ·rw [if_neg c34] at H
                   have c34b0 : (a0 == 44) = false := beq_eq_false_iff_ne.mpr c34
                   have c34b1 : (a0 != 44) = true := bne_iff_ne.mpr c34
                   simp only [Option.some.injEq, Prod.mk.injEq] at H
                   obtain ⟨rfl, rfl⟩ := H
                   go_wp2
                   go_ret2
                   exact ⟨by first | rfl | (simp; done) | (simp [*]; done), by repeat (first | exact Drawn0.refl _ | apply Drawn0.step)⟩
end Go.Proofs.Ytononmcodecmaaa.Q
