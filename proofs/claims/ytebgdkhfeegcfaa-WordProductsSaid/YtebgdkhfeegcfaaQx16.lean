-- Written by this session's own driver (wip/tools/ownprint.py) over the kit's print: walks of the translated Go, each function once.
import Derived.Test.YtebgdkhfeegcfaaQx0
import Derived.Test.YtebgdkhfeegcfaaQx5
namespace Go.Proofs.Ytebgdkhfeegcfaa.Q
open Go.RowKit Go.Proofs.YtebgdkhfeegcfaaW.PrintWords Go.Proofs.YtebgdkhfeegcfaaW.PrintLast Go.Proofs.YtebgdkhfeegcfaaW.PrintMore
attribute [local go_sem] max2_int min2_int max_two min_two max_three min_three max_four min_four   -- for this text's walks alone
attribute [local go_sem] imax_u32 imax_u8 isg_u32 isg_u8
set_option linter.unusedVariables false
set_option linter.unusedSimpArgs false

/-! ### whetstonelaw01_WordProducts: function 7 -/
def whetstonelaw01_WordProducts.j0 : Nat → Int → Int → Int → Int → Int → Int → Int → Option (Bool)
  | 0, _, _, _, _, _, _, _ => none
  | k + 1, x0, x1, x5, x6, x7, x8, x9 => if (x1 / 2147483648) = 1 then (if (Go.bits .or .u64 (IntKind.u64.wrap ((IntKind.u64.wrap (x5)) * 4294967296)) (IntKind.u64.wrap (x6))) = x7 then ((whetstonelaw01_does.f k 39 x0 x1).bind fun t219 => (if t219 = x8 then ((whetstonelaw01_does.f k 38 x0 x1).bind fun t220 => (if t220 = ((x9 - x0) % 4294967296) then ((whetstonelaw01_fixed.f k).bind fun t221 => (some t221)) else (some false))) else (some false))) else (some false)) else (if (Go.bits .or .u64 (IntKind.u64.wrap ((IntKind.u64.wrap (x5)) * 4294967296)) (IntKind.u64.wrap (x6))) = x7 then ((whetstonelaw01_does.f k 39 x0 x1).bind fun t222 => (if t222 = x8 then ((whetstonelaw01_does.f k 38 x0 x1).bind fun t223 => (if t223 = x9 then ((whetstonelaw01_fixed.f k).bind fun t224 => (some t224)) else (some false))) else (some false))) else (some false))
def whetstonelaw01_WordProducts.f (k : Nat) (a0 : Int) (a1 : Int) : Option (Bool) := (whetstonelaw01_does.f k 40 a0 a1).bind fun t217 => ((whetstonelaw01_does.f k 37 a0 a1).bind fun t218 => (if (a0 / 2147483648) = 1 then (whetstonelaw01_WordProducts.j0 k a0 a1 t217 t218 (IntKind.u64.wrap ((IntKind.u64.wrap (a0)) * (IntKind.u64.wrap (a1)))) ((t217 - a1) % 4294967296) ((t217 - a1) % 4294967296)) else (whetstonelaw01_WordProducts.j0 k a0 a1 t217 t218 (IntKind.u64.wrap ((IntKind.u64.wrap (a0)) * (IntKind.u64.wrap (a1)))) t217 t217)))
theorem whetstonelaw01_WordProducts.mono_l : ∀ k, (∀ y0 y1 y2 y3 y4 y5 y6, LeO (whetstonelaw01_WordProducts.j0 k y0 y1 y2 y3 y4 y5 y6) (whetstonelaw01_WordProducts.j0 (k + 1) y0 y1 y2 y3 y4 y5 y6))
  | 0 => fun _ _ _ _ _ _ _ r h => by simp [whetstonelaw01_WordProducts.j0] at h
  | k + 1 => by
    have ih0 := whetstonelaw01_WordProducts.mono_l k
    · intro y0 y1 y2 y3 y4 y5 y6
      unfold whetstonelaw01_WordProducts.j0
      repeat' first
      | (with_reducible exact ih0 _ _ _ _ _ _ _)
      | (with_reducible exact whetstonelaw01_does.mono _ _ _ _)
      | (with_reducible exact whetstonelaw01_fixed.mono _)
      | (with_reducible exact LeO.refl _)
      | (with_reducible exact LeO.none _)
      | (with_reducible refine LeO.ite ?_ ?_)
      | (with_reducible refine LeO.bind ?_ (fun _ => ?_))
      | exact ih0 _ _ _ _ _ _ _
      | exact whetstonelaw01_does.mono _ _ _ _
      | exact whetstonelaw01_fixed.mono _
      | exact LeO.none _
      | refine LeO.ite ?_ ?_
      | refine LeO.bind ?_ (fun _ => ?_)
theorem whetstonelaw01_WordProducts.mono : ∀ a0 a1 k, LeO (whetstonelaw01_WordProducts.f k a0 a1) (whetstonelaw01_WordProducts.f (k + 1) a0 a1) := by
  intro a0 a1 k
  have ih0 := whetstonelaw01_WordProducts.mono_l k
  unfold whetstonelaw01_WordProducts.f
  repeat' first
      | (with_reducible exact ih0 _ _ _ _ _ _ _)
      | (with_reducible exact whetstonelaw01_does.mono _ _ _ _)
      | (with_reducible exact whetstonelaw01_fixed.mono _)
      | (with_reducible exact LeO.refl _)
      | (with_reducible exact LeO.none _)
      | (with_reducible refine LeO.ite ?_ ?_)
      | (with_reducible refine LeO.bind ?_ (fun _ => ?_))
      | exact ih0 _ _ _ _ _ _ _
      | exact whetstonelaw01_does.mono _ _ _ _
      | exact whetstonelaw01_fixed.mono _
      | exact LeO.none _
      | refine LeO.ite ?_ ?_
      | refine LeO.bind ?_ (fun _ => ?_)
set_option maxHeartbeats 8000000 in
set_option maxRecDepth 100000 in
theorem whetstonelaw01_WordProducts.calls (k : Nat) (a0 : Int) (a1 : Int) (r : Bool) (w : World) (h : whetstonelaw01_WordProducts.f k a0 a1 = some r) :
    Calls Try.prog 7 #[.int .u32 a0, .int .u32 a1] w fun e w' => e = .returned (.bool r) ∧ Drawn0 w w' := by
  have H : ((whetstonelaw01_does.f k 40 a0 a1).bind fun t217 => ((whetstonelaw01_does.f k 37 a0 a1).bind fun t218 => (if (a0 / 2147483648) = 1 then (whetstonelaw01_WordProducts.j0 k a0 a1 t217 t218 (IntKind.u64.wrap ((IntKind.u64.wrap (a0)) * (IntKind.u64.wrap (a1)))) ((t217 - a1) % 4294967296) ((t217 - a1) % 4294967296)) else (whetstonelaw01_WordProducts.j0 k a0 a1 t217 t218 (IntKind.u64.wrap ((IntKind.u64.wrap (a0)) * (IntKind.u64.wrap (a1)))) t217 t217)))) = some r := h
  clear h
  replace H := Option.bind_eq_some_iff.mp H
  obtain ⟨t217, A30, H⟩ := H
  replace H : ((whetstonelaw01_does.f k 37 a0 a1).bind fun t218 => (if (a0 / 2147483648) = 1 then (whetstonelaw01_WordProducts.j0 k a0 a1 t217 t218 (IntKind.u64.wrap ((IntKind.u64.wrap (a0)) * (IntKind.u64.wrap (a1)))) ((t217 - a1) % 4294967296) ((t217 - a1) % 4294967296)) else (whetstonelaw01_WordProducts.j0 k a0 a1 t217 t218 (IntKind.u64.wrap ((IntKind.u64.wrap (a0)) * (IntKind.u64.wrap (a1)))) t217 t217))) = some r := H
  have A3 := Aside0.mk A30
  clear A30
  replace H := Option.bind_eq_some_iff.mp H
  obtain ⟨t218, A40, H⟩ := H
  replace H : (if (a0 / 2147483648) = 1 then (whetstonelaw01_WordProducts.j0 k a0 a1 t217 t218 (IntKind.u64.wrap ((IntKind.u64.wrap (a0)) * (IntKind.u64.wrap (a1)))) ((t217 - a1) % 4294967296) ((t217 - a1) % 4294967296)) else (whetstonelaw01_WordProducts.j0 k a0 a1 t217 t218 (IntKind.u64.wrap ((IntKind.u64.wrap (a0)) * (IntKind.u64.wrap (a1)))) t217 t217)) = some r := H
  have A4 := Aside0.mk A40
  clear A40
  have HC5 := Aside0.mk H
  clear H
  go_enter Try.func7, Try.ntmps7
  go_upto_if 25 with (first | ((with_reducible refine gate_callee (f := 22) rfl ?_); refine goesL_ (some 12) rfl rfl Try.func22 (by kernel_rfl) rfl #[.int .i64 40, .int .u32 a0, .int .u32 a1] rfl (by (try simp only [List.map_toArray, List.map_cons, List.map_nil]); first | done | rfl | (simp only [List.length_drop, List.length_take]; rfl)) ?_; (with_reducible refine (whetstonelaw01_does.calls k 40 a0 a1 t217 _ A3.out).mono ?_); rintro e w' ⟨rfl, ⟨nd, rfl⟩⟩; refine ⟨_, rfl, ?_⟩) | ((with_reducible refine gate_callee (f := 22) rfl ?_); refine goesL_ (some 15) rfl rfl Try.func22 (by kernel_rfl) rfl #[.int .i64 37, .int .u32 a0, .int .u32 a1] rfl (by (try simp only [List.map_toArray, List.map_cons, List.map_nil]); first | done | rfl | (simp only [List.length_drop, List.length_take]; rfl)) ?_; (with_reducible refine (whetstonelaw01_does.calls k 37 a0 a1 t218 _ A4.out).mono ?_); rintro e w' ⟨rfl, ⟨nd, rfl⟩⟩; refine ⟨_, rfl, ?_⟩))
  (try simp only [Act.put, List.setIfInBounds_toArray, List.set_cons_zero, List.set_cons_succ])
  go_cut [8, 9] (fun v8 v9 wc => ∃ (kq : Nat) (x8_4 : Int) (x9_4 : Int), v8 = .int .u32 x8_4 ∧ v9 = .int .u32 x9_4 ∧ Aside0 (whetstonelaw01_WordProducts.j0 kq a0 a1 t217 t218 (IntKind.u64.wrap ((IntKind.u64.wrap (a0)) * (IntKind.u64.wrap (a1)))) x8_4 x9_4 = some r) ∧ Aside0 (kq ≤ k) ∧ Drawn0 w wc)
  case first =>
    have H := HC5.out
    clear HC5
    by_cases c6 : (a0 / 2147483648) = 1
    · rw [if_pos c6] at H
      have c6b0 : ((a0 / 2147483648) == 1) = true := beq_iff_eq.mpr c6
      have c6b1 : ((a0 / 2147483648) != 1) = false := bne_eq_false_iff_eq.mpr c6
      clear c6
      (first | rw [c6b0] | (simp only [i64_w, i32_w]; rw [c6b0]) | skip)
      have H' := Aside0.mk H
      clear H
      go_wp2
      go_meet
      case rel => exact ⟨_, ((t217 - a1) % 4294967296), ((t217 - a1) % 4294967296), (by first | rfl | (simp; done) | (simp [*]; done)), (by first | rfl | (simp; done) | (simp [*]; done)), H', ⟨by first | omega | exact Nat.le_refl _⟩, by repeat (first | exact Drawn0.refl _ | apply Drawn0.step)⟩
    · rw [if_neg c6] at H
      have c6b0 : ((a0 / 2147483648) == 1) = false := beq_eq_false_iff_ne.mpr c6
      have c6b1 : ((a0 / 2147483648) != 1) = true := bne_iff_ne.mpr c6
      (first | rw [c6b0] | (simp only [i64_w, i32_w]; rw [c6b0]) | skip)
      have H' := Aside0.mk H
      clear H
      go_wp2
      go_meet
      case rel => exact ⟨_, (t217), (t217), (by first | rfl | (simp; done) | (simp [*]; done)), (by first | rfl | (simp; done) | (simp [*]; done)), H', ⟨by first | omega | exact Nat.le_refl _⟩, by repeat (first | exact Drawn0.refl _ | apply Drawn0.step)⟩
  case rest =>
    clear HC5
    try clear c2
    try clear p2
    try clear c6
    try clear c6b0
    try clear c6b1
    obtain ⟨kq, x8_4, x9_4, rfl, rfl, HA, HJ4, ⟨mc4, rfl⟩⟩ := hcut
    cases kq with
    | zero => exact absurd HA.out (by simp [whetstonelaw01_WordProducts.j0])
    | succ kj4 =>
      have H := HA.out
      clear HA
      simp only [whetstonelaw01_WordProducts.j0] at H
      by_cases c7 : (a1 / 2147483648) = 1
      · rw [if_pos c7] at H
        have c7b0 : ((a1 / 2147483648) == 1) = true := beq_iff_eq.mpr c7
        have c7b1 : ((a1 / 2147483648) != 1) = false := bne_eq_false_iff_eq.mpr c7
        clear c7
        by_cases c8 : (Go.bits .or .u64 (IntKind.u64.wrap ((IntKind.u64.wrap (t217)) * 4294967296)) (IntKind.u64.wrap (t218))) = (IntKind.u64.wrap ((IntKind.u64.wrap (a0)) * (IntKind.u64.wrap (a1))))
        · rw [if_pos c8] at H
          have c8b0 : ((Go.bits .or .u64 (IntKind.u64.wrap ((IntKind.u64.wrap (t217)) * 4294967296)) (IntKind.u64.wrap (t218))) == (IntKind.u64.wrap ((IntKind.u64.wrap (a0)) * (IntKind.u64.wrap (a1))))) = true := beq_iff_eq.mpr c8
          have c8b1 : ((Go.bits .or .u64 (IntKind.u64.wrap ((IntKind.u64.wrap (t217)) * 4294967296)) (IntKind.u64.wrap (t218))) != (IntKind.u64.wrap ((IntKind.u64.wrap (a0)) * (IntKind.u64.wrap (a1))))) = false := bne_eq_false_iff_eq.mpr c8
          clear c8
          replace H := Option.bind_eq_some_iff.mp H
          obtain ⟨t219, A90, H⟩ := H
          replace H : (if t219 = x8_4 then ((whetstonelaw01_does.f kj4 38 a0 a1).bind fun t220 => (if t220 = ((x9_4 - a0) % 4294967296) then ((whetstonelaw01_fixed.f kj4).bind fun t221 => (some t221)) else (some false))) else (some false)) = some r := H
          have A9 := Aside0.mk A90
          clear A90
          by_cases c10 : t219 = x8_4
          · rw [if_pos c10] at H
            have c10b0 : (t219 == x8_4) = true := beq_iff_eq.mpr c10
            have c10b1 : (t219 != x8_4) = false := bne_eq_false_iff_eq.mpr c10
            clear c10
            replace H := Option.bind_eq_some_iff.mp H
            obtain ⟨t220, A110, H⟩ := H
            replace H : (if t220 = ((x9_4 - a0) % 4294967296) then ((whetstonelaw01_fixed.f kj4).bind fun t221 => (some t221)) else (some false)) = some r := H
            have A11 := Aside0.mk A110
            clear A110
            by_cases c12 : t220 = ((x9_4 - a0) % 4294967296)
            · rw [if_pos c12] at H
              have c12b0 : (t220 == ((x9_4 - a0) % 4294967296)) = true := beq_iff_eq.mpr c12
              have c12b1 : (t220 != ((x9_4 - a0) % 4294967296)) = false := bne_eq_false_iff_eq.mpr c12
              clear c12
              replace H := Option.bind_eq_some_iff.mp H
              obtain ⟨t221, A130, H⟩ := H
              replace H : (some t221) = some r := H
              have A13 := Aside0.mk A130
              clear A130
              obtain rfl := Option.some.inj H
              go_wp2_with (first | (go_at_call 22; (with_reducible refine (whetstonelaw01_does.calls kj4 39 a0 a1 t219 _ A9.out).mono ?_); rintro e w' ⟨rfl, ⟨nd, rfl⟩⟩) | (go_at_call 22; (with_reducible refine (whetstonelaw01_does.calls kj4 38 a0 a1 t220 _ A11.out).mono ?_); rintro e w' ⟨rfl, ⟨nd, rfl⟩⟩) | (go_at_call 13; (with_reducible refine (whetstonelaw01_fixed.calls kj4  t221 _ A13.out).mono ?_); rintro e w' ⟨rfl, ⟨nd, rfl⟩⟩))
              go_ret
              exact ⟨by first | rfl | (simp; done) | (simp [*]; done), by repeat (first | exact Drawn0.refl _ | apply Drawn0.step)⟩
            · rw [if_neg c12] at H
              have c12b0 : (t220 == ((x9_4 - a0) % 4294967296)) = false := beq_eq_false_iff_ne.mpr c12
              have c12b1 : (t220 != ((x9_4 - a0) % 4294967296)) = true := bne_iff_ne.mpr c12
              obtain rfl := Option.some.inj H
              go_wp2_with (first | (go_at_call 22; (with_reducible refine (whetstonelaw01_does.calls kj4 39 a0 a1 t219 _ A9.out).mono ?_); rintro e w' ⟨rfl, ⟨nd, rfl⟩⟩) | (go_at_call 22; (with_reducible refine (whetstonelaw01_does.calls kj4 38 a0 a1 t220 _ A11.out).mono ?_); rintro e w' ⟨rfl, ⟨nd, rfl⟩⟩))
              go_ret
              exact ⟨by first | rfl | (simp; done) | (simp [*]; done), by repeat (first | exact Drawn0.refl _ | apply Drawn0.step)⟩
          · rw [if_neg c10] at H
            have c10b0 : (t219 == x8_4) = false := beq_eq_false_iff_ne.mpr c10
            have c10b1 : (t219 != x8_4) = true := bne_iff_ne.mpr c10
            obtain rfl := Option.some.inj H
            go_wp2_with (first | (go_at_call 22; (with_reducible refine (whetstonelaw01_does.calls kj4 39 a0 a1 t219 _ A9.out).mono ?_); rintro e w' ⟨rfl, ⟨nd, rfl⟩⟩))
            go_ret
            exact ⟨by first | rfl | (simp; done) | (simp [*]; done), by repeat (first | exact Drawn0.refl _ | apply Drawn0.step)⟩
        · rw [if_neg c8] at H
          have c8b0 : ((Go.bits .or .u64 (IntKind.u64.wrap ((IntKind.u64.wrap (t217)) * 4294967296)) (IntKind.u64.wrap (t218))) == (IntKind.u64.wrap ((IntKind.u64.wrap (a0)) * (IntKind.u64.wrap (a1))))) = false := beq_eq_false_iff_ne.mpr c8
          have c8b1 : ((Go.bits .or .u64 (IntKind.u64.wrap ((IntKind.u64.wrap (t217)) * 4294967296)) (IntKind.u64.wrap (t218))) != (IntKind.u64.wrap ((IntKind.u64.wrap (a0)) * (IntKind.u64.wrap (a1))))) = true := bne_iff_ne.mpr c8
          obtain rfl := Option.some.inj H
          go_wp2
          go_ret
          exact ⟨by first | rfl | (simp; done) | (simp [*]; done), by repeat (first | exact Drawn0.refl _ | apply Drawn0.step)⟩
      · rw [if_neg c7] at H
        have c7b0 : ((a1 / 2147483648) == 1) = false := beq_eq_false_iff_ne.mpr c7
        have c7b1 : ((a1 / 2147483648) != 1) = true := bne_iff_ne.mpr c7
        by_cases c14 : (Go.bits .or .u64 (IntKind.u64.wrap ((IntKind.u64.wrap (t217)) * 4294967296)) (IntKind.u64.wrap (t218))) = (IntKind.u64.wrap ((IntKind.u64.wrap (a0)) * (IntKind.u64.wrap (a1))))
        · rw [if_pos c14] at H
          have c14b0 : ((Go.bits .or .u64 (IntKind.u64.wrap ((IntKind.u64.wrap (t217)) * 4294967296)) (IntKind.u64.wrap (t218))) == (IntKind.u64.wrap ((IntKind.u64.wrap (a0)) * (IntKind.u64.wrap (a1))))) = true := beq_iff_eq.mpr c14
          have c14b1 : ((Go.bits .or .u64 (IntKind.u64.wrap ((IntKind.u64.wrap (t217)) * 4294967296)) (IntKind.u64.wrap (t218))) != (IntKind.u64.wrap ((IntKind.u64.wrap (a0)) * (IntKind.u64.wrap (a1))))) = false := bne_eq_false_iff_eq.mpr c14
          clear c14
          replace H := Option.bind_eq_some_iff.mp H
          obtain ⟨t222, A150, H⟩ := H
          replace H : (if t222 = x8_4 then ((whetstonelaw01_does.f kj4 38 a0 a1).bind fun t223 => (if t223 = x9_4 then ((whetstonelaw01_fixed.f kj4).bind fun t224 => (some t224)) else (some false))) else (some false)) = some r := H
          have A15 := Aside0.mk A150
          clear A150
          by_cases c16 : t222 = x8_4
          · rw [if_pos c16] at H
            have c16b0 : (t222 == x8_4) = true := beq_iff_eq.mpr c16
            have c16b1 : (t222 != x8_4) = false := bne_eq_false_iff_eq.mpr c16
            clear c16
            replace H := Option.bind_eq_some_iff.mp H
            obtain ⟨t223, A170, H⟩ := H
            replace H : (if t223 = x9_4 then ((whetstonelaw01_fixed.f kj4).bind fun t224 => (some t224)) else (some false)) = some r := H
            have A17 := Aside0.mk A170
            clear A170
            by_cases c18 : t223 = x9_4
            · rw [if_pos c18] at H
              have c18b0 : (t223 == x9_4) = true := beq_iff_eq.mpr c18
              have c18b1 : (t223 != x9_4) = false := bne_eq_false_iff_eq.mpr c18
              clear c18
              replace H := Option.bind_eq_some_iff.mp H
              obtain ⟨t224, A190, H⟩ := H
              replace H : (some t224) = some r := H
              have A19 := Aside0.mk A190
              clear A190
              obtain rfl := Option.some.inj H
              go_wp2_with (first | (go_at_call 22; (with_reducible refine (whetstonelaw01_does.calls kj4 39 a0 a1 t222 _ A15.out).mono ?_); rintro e w' ⟨rfl, ⟨nd, rfl⟩⟩) | (go_at_call 22; (with_reducible refine (whetstonelaw01_does.calls kj4 38 a0 a1 t223 _ A17.out).mono ?_); rintro e w' ⟨rfl, ⟨nd, rfl⟩⟩) | (go_at_call 13; (with_reducible refine (whetstonelaw01_fixed.calls kj4  t224 _ A19.out).mono ?_); rintro e w' ⟨rfl, ⟨nd, rfl⟩⟩))
              go_ret
              exact ⟨by first | rfl | (simp; done) | (simp [*]; done), by repeat (first | exact Drawn0.refl _ | apply Drawn0.step)⟩
            · rw [if_neg c18] at H
              have c18b0 : (t223 == x9_4) = false := beq_eq_false_iff_ne.mpr c18
              have c18b1 : (t223 != x9_4) = true := bne_iff_ne.mpr c18
              obtain rfl := Option.some.inj H
              go_wp2_with (first | (go_at_call 22; (with_reducible refine (whetstonelaw01_does.calls kj4 39 a0 a1 t222 _ A15.out).mono ?_); rintro e w' ⟨rfl, ⟨nd, rfl⟩⟩) | (go_at_call 22; (with_reducible refine (whetstonelaw01_does.calls kj4 38 a0 a1 t223 _ A17.out).mono ?_); rintro e w' ⟨rfl, ⟨nd, rfl⟩⟩))
              go_ret
              exact ⟨by first | rfl | (simp; done) | (simp [*]; done), by repeat (first | exact Drawn0.refl _ | apply Drawn0.step)⟩
          · rw [if_neg c16] at H
            have c16b0 : (t222 == x8_4) = false := beq_eq_false_iff_ne.mpr c16
            have c16b1 : (t222 != x8_4) = true := bne_iff_ne.mpr c16
            obtain rfl := Option.some.inj H
            go_wp2_with (first | (go_at_call 22; (with_reducible refine (whetstonelaw01_does.calls kj4 39 a0 a1 t222 _ A15.out).mono ?_); rintro e w' ⟨rfl, ⟨nd, rfl⟩⟩))
            go_ret
            exact ⟨by first | rfl | (simp; done) | (simp [*]; done), by repeat (first | exact Drawn0.refl _ | apply Drawn0.step)⟩
        · rw [if_neg c14] at H
          have c14b0 : ((Go.bits .or .u64 (IntKind.u64.wrap ((IntKind.u64.wrap (t217)) * 4294967296)) (IntKind.u64.wrap (t218))) == (IntKind.u64.wrap ((IntKind.u64.wrap (a0)) * (IntKind.u64.wrap (a1))))) = false := beq_eq_false_iff_ne.mpr c14
          have c14b1 : ((Go.bits .or .u64 (IntKind.u64.wrap ((IntKind.u64.wrap (t217)) * 4294967296)) (IntKind.u64.wrap (t218))) != (IntKind.u64.wrap ((IntKind.u64.wrap (a0)) * (IntKind.u64.wrap (a1))))) = true := bne_iff_ne.mpr c14
          obtain rfl := Option.some.inj H
          go_wp2
          go_ret
          exact ⟨by first | rfl | (simp; done) | (simp [*]; done), by repeat (first | exact Drawn0.refl _ | apply Drawn0.step)⟩

/-- THE ONE PURE STATEMENT of whetstonelaw01_WordProducts: yours. -/
def whetstonelaw01_WordProducts.Pure : Prop := ∀ (a0 : Int) (a1 : Int), (Lit.int .u32 a0).wf = true → (Lit.int .u32 a1).wf = true → ∃ k, whetstonelaw01_WordProducts.f k a0 a1 = some true
theorem whetstonelaw01_WordProducts.walk (P : whetstonelaw01_WordProducts.Pure) (a0 : Int) (a1 : Int) (w : World) (w0 : (Lit.int .u32 a0).wf = true) (w1 : (Lit.int .u32 a1).wf = true) :
    Calls Try.prog 7 #[.int .u32 a0, .int .u32 a1] w fun e w' => e = .returned (.bool true) ∧ Below w.heap.size w w' := by
  obtain ⟨k, h⟩ := P a0 a1 w0 w1
  refine (whetstonelaw01_WordProducts.calls k a0 a1 true w h).mono ?_
  rintro e w' ⟨rfl, hd⟩
  exact ⟨rfl, hd.below⟩

end Go.Proofs.Ytebgdkhfeegcfaa.Q
