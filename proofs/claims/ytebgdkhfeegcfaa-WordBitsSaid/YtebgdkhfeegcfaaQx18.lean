-- Written by this session's own driver (wip/tools/ownprint.py) over the kit's print: walks of the translated Go, each function once.
import Derived.Test.YtebgdkhfeegcfaaQx0
import Derived.Test.YtebgdkhfeegcfaaQx5
namespace Go.Proofs.Ytebgdkhfeegcfaa.Q
open Go.RowKit Go.Proofs.YtebgdkhfeegcfaaW.PrintWords Go.Proofs.YtebgdkhfeegcfaaW.PrintLast Go.Proofs.YtebgdkhfeegcfaaW.PrintMore
attribute [local go_sem] max2_int min2_int max_two min_two max_three min_three max_four min_four   -- for this text's walks alone
attribute [local go_sem] imax_u32 imax_u8 isg_u32 isg_u8
set_option linter.unusedVariables false
set_option linter.unusedSimpArgs false

/-! ### whetstonelaw01_WordOrders: function 9 -/
def whetstonelaw01_WordOrders.f (k : Nat) (a0 : Int) (a1 : Int) : Option (Bool) := (whetstonelaw01_does.f k 31 a0 a1).bind fun t239 => ((whetstonelaw01_does.f k 31 a1 a0).bind fun t240 => ((whetstonelaw01_does.f k 30 a0 a1).bind fun t241 => ((whetstonelaw01_does.f k 30 a1 a0).bind fun t242 => (if ((t239 + t240) % 4294967296) ≤ 1 then (if ((t241 + t242) % 4294967296) ≤ 1 then (if ((((t239 + t240) % 4294967296) == 0) == (a0 == a1)) = true then (if ((((t241 + t242) % 4294967296) == 0) == (a0 == a1)) = true then ((whetstonelaw01_does.f k 31 (Go.bits .xor .u32 a0 2147483648) (Go.bits .xor .u32 a1 2147483648)).bind fun t243 => (if t241 = t243 then ((whetstonelaw01_fixed.f k).bind fun t244 => (some t244)) else (some false))) else (some false)) else (some false)) else (some false)) else (some false)))))
theorem whetstonelaw01_WordOrders.mono : ∀ a0 a1 k, LeO (whetstonelaw01_WordOrders.f k a0 a1) (whetstonelaw01_WordOrders.f (k + 1) a0 a1) := by
  intro a0 a1 k
  unfold whetstonelaw01_WordOrders.f
  repeat' first
      | (with_reducible exact whetstonelaw01_does.mono _ _ _ _)
      | (with_reducible exact whetstonelaw01_fixed.mono _)
      | (with_reducible exact LeO.refl _)
      | (with_reducible exact LeO.none _)
      | (with_reducible refine LeO.ite ?_ ?_)
      | (with_reducible refine LeO.bind ?_ (fun _ => ?_))
      | exact whetstonelaw01_does.mono _ _ _ _
      | exact whetstonelaw01_fixed.mono _
      | exact LeO.none _
      | refine LeO.ite ?_ ?_
      | refine LeO.bind ?_ (fun _ => ?_)
set_option maxHeartbeats 8000000 in
set_option maxRecDepth 100000 in
theorem whetstonelaw01_WordOrders.calls (k : Nat) (a0 : Int) (a1 : Int) (r : Bool) (w : World) (h : whetstonelaw01_WordOrders.f k a0 a1 = some r) :
    Calls Try.prog 9 #[.int .u32 a0, .int .u32 a1] w fun e w' => e = .returned (.bool r) ∧ Drawn0 w w' := by
  have H : ((whetstonelaw01_does.f k 31 a0 a1).bind fun t239 => ((whetstonelaw01_does.f k 31 a1 a0).bind fun t240 => ((whetstonelaw01_does.f k 30 a0 a1).bind fun t241 => ((whetstonelaw01_does.f k 30 a1 a0).bind fun t242 => (if ((t239 + t240) % 4294967296) ≤ 1 then (if ((t241 + t242) % 4294967296) ≤ 1 then (if ((((t239 + t240) % 4294967296) == 0) == (a0 == a1)) = true then (if ((((t241 + t242) % 4294967296) == 0) == (a0 == a1)) = true then ((whetstonelaw01_does.f k 31 (Go.bits .xor .u32 a0 2147483648) (Go.bits .xor .u32 a1 2147483648)).bind fun t243 => (if t241 = t243 then ((whetstonelaw01_fixed.f k).bind fun t244 => (some t244)) else (some false))) else (some false)) else (some false)) else (some false)) else (some false)))))) = some r := h
  clear h
  replace H := Option.bind_eq_some_iff.mp H
  obtain ⟨t239, A30, H⟩ := H
  replace H : ((whetstonelaw01_does.f k 31 a1 a0).bind fun t240 => ((whetstonelaw01_does.f k 30 a0 a1).bind fun t241 => ((whetstonelaw01_does.f k 30 a1 a0).bind fun t242 => (if ((t239 + t240) % 4294967296) ≤ 1 then (if ((t241 + t242) % 4294967296) ≤ 1 then (if ((((t239 + t240) % 4294967296) == 0) == (a0 == a1)) = true then (if ((((t241 + t242) % 4294967296) == 0) == (a0 == a1)) = true then ((whetstonelaw01_does.f k 31 (Go.bits .xor .u32 a0 2147483648) (Go.bits .xor .u32 a1 2147483648)).bind fun t243 => (if t241 = t243 then ((whetstonelaw01_fixed.f k).bind fun t244 => (some t244)) else (some false))) else (some false)) else (some false)) else (some false)) else (some false))))) = some r := H
  have A3 := Aside0.mk A30
  clear A30
  replace H := Option.bind_eq_some_iff.mp H
  obtain ⟨t240, A40, H⟩ := H
  replace H : ((whetstonelaw01_does.f k 30 a0 a1).bind fun t241 => ((whetstonelaw01_does.f k 30 a1 a0).bind fun t242 => (if ((t239 + t240) % 4294967296) ≤ 1 then (if ((t241 + t242) % 4294967296) ≤ 1 then (if ((((t239 + t240) % 4294967296) == 0) == (a0 == a1)) = true then (if ((((t241 + t242) % 4294967296) == 0) == (a0 == a1)) = true then ((whetstonelaw01_does.f k 31 (Go.bits .xor .u32 a0 2147483648) (Go.bits .xor .u32 a1 2147483648)).bind fun t243 => (if t241 = t243 then ((whetstonelaw01_fixed.f k).bind fun t244 => (some t244)) else (some false))) else (some false)) else (some false)) else (some false)) else (some false)))) = some r := H
  have A4 := Aside0.mk A40
  clear A40
  replace H := Option.bind_eq_some_iff.mp H
  obtain ⟨t241, A50, H⟩ := H
  replace H : ((whetstonelaw01_does.f k 30 a1 a0).bind fun t242 => (if ((t239 + t240) % 4294967296) ≤ 1 then (if ((t241 + t242) % 4294967296) ≤ 1 then (if ((((t239 + t240) % 4294967296) == 0) == (a0 == a1)) = true then (if ((((t241 + t242) % 4294967296) == 0) == (a0 == a1)) = true then ((whetstonelaw01_does.f k 31 (Go.bits .xor .u32 a0 2147483648) (Go.bits .xor .u32 a1 2147483648)).bind fun t243 => (if t241 = t243 then ((whetstonelaw01_fixed.f k).bind fun t244 => (some t244)) else (some false))) else (some false)) else (some false)) else (some false)) else (some false))) = some r := H
  have A5 := Aside0.mk A50
  clear A50
  replace H := Option.bind_eq_some_iff.mp H
  obtain ⟨t242, A60, H⟩ := H
  replace H : (if ((t239 + t240) % 4294967296) ≤ 1 then (if ((t241 + t242) % 4294967296) ≤ 1 then (if ((((t239 + t240) % 4294967296) == 0) == (a0 == a1)) = true then (if ((((t241 + t242) % 4294967296) == 0) == (a0 == a1)) = true then ((whetstonelaw01_does.f k 31 (Go.bits .xor .u32 a0 2147483648) (Go.bits .xor .u32 a1 2147483648)).bind fun t243 => (if t241 = t243 then ((whetstonelaw01_fixed.f k).bind fun t244 => (some t244)) else (some false))) else (some false)) else (some false)) else (some false)) else (some false)) = some r := H
  have A6 := Aside0.mk A60
  clear A60
  by_cases c7 : ((t239 + t240) % 4294967296) ≤ 1
  · rw [if_pos c7] at H
    have c7b0 : decide (((t239 + t240) % 4294967296) ≤ 1) = true := decide_eq_true c7
    clear c7
    by_cases c8 : ((t241 + t242) % 4294967296) ≤ 1
    · rw [if_pos c8] at H
      have c8b0 : decide (((t241 + t242) % 4294967296) ≤ 1) = true := decide_eq_true c8
      clear c8
      by_cases c9 : ((((t239 + t240) % 4294967296) == 0) == (a0 == a1)) = true
      · rw [if_pos c9] at H
        have c9b0 : ((((t239 + t240) % 4294967296) == 0) == (a0 == a1)) = true := c9
        (try (have c9b1 : decide ((((t239 + t240) % 4294967296) == 0) = (a0 == a1)) = true := by simpa using c9))
        (try (have c9b2 : ((((t239 + t240) % 4294967296) == 0) == (a0 == a1)) = true := by simpa using c9))
        clear c9
        by_cases c10 : ((((t241 + t242) % 4294967296) == 0) == (a0 == a1)) = true
        · rw [if_pos c10] at H
          have c10b0 : ((((t241 + t242) % 4294967296) == 0) == (a0 == a1)) = true := c10
          (try (have c10b1 : decide ((((t241 + t242) % 4294967296) == 0) = (a0 == a1)) = true := by simpa using c10))
          (try (have c10b2 : ((((t241 + t242) % 4294967296) == 0) == (a0 == a1)) = true := by simpa using c10))
          clear c10
          replace H := Option.bind_eq_some_iff.mp H
          obtain ⟨t243, A110, H⟩ := H
          replace H : (if t241 = t243 then ((whetstonelaw01_fixed.f k).bind fun t244 => (some t244)) else (some false)) = some r := H
          have A11 := Aside0.mk A110
          clear A110
          by_cases c12 : t241 = t243
          · rw [if_pos c12] at H
            have c12b0 : (t241 == t243) = true := beq_iff_eq.mpr c12
            have c12b1 : (t241 != t243) = false := bne_eq_false_iff_eq.mpr c12
            clear c12
            replace H := Option.bind_eq_some_iff.mp H
            obtain ⟨t244, A130, H⟩ := H
            replace H : (some t244) = some r := H
            have A13 := Aside0.mk A130
            clear A130
            obtain rfl := Option.some.inj H
            go_enter Try.func9, Try.ntmps9
            go_wp2_with (first | ((with_reducible refine gate_callee (f := 22) rfl ?_); refine goesL_ (some 11) rfl rfl Try.func22 (by kernel_rfl) rfl #[.int .i64 31, .int .u32 a0, .int .u32 a1] rfl (by (try simp only [List.map_toArray, List.map_cons, List.map_nil]); first | done | rfl | (simp only [List.length_drop, List.length_take]; rfl)) ?_; (with_reducible refine (whetstonelaw01_does.calls k 31 a0 a1 t239 _ A3.out).mono ?_); rintro e w' ⟨rfl, ⟨nd, rfl⟩⟩; refine ⟨_, rfl, ?_⟩) | ((with_reducible refine gate_callee (f := 22) rfl ?_); refine goesL_ (some 14) rfl rfl Try.func22 (by kernel_rfl) rfl #[.int .i64 31, .int .u32 a1, .int .u32 a0] rfl (by (try simp only [List.map_toArray, List.map_cons, List.map_nil]); first | done | rfl | (simp only [List.length_drop, List.length_take]; rfl)) ?_; (with_reducible refine (whetstonelaw01_does.calls k 31 a1 a0 t240 _ A4.out).mono ?_); rintro e w' ⟨rfl, ⟨nd, rfl⟩⟩; refine ⟨_, rfl, ?_⟩) | ((with_reducible refine gate_callee (f := 22) rfl ?_); refine goesL_ (some 17) rfl rfl Try.func22 (by kernel_rfl) rfl #[.int .i64 30, .int .u32 a0, .int .u32 a1] rfl (by (try simp only [List.map_toArray, List.map_cons, List.map_nil]); first | done | rfl | (simp only [List.length_drop, List.length_take]; rfl)) ?_; (with_reducible refine (whetstonelaw01_does.calls k 30 a0 a1 t241 _ A5.out).mono ?_); rintro e w' ⟨rfl, ⟨nd, rfl⟩⟩; refine ⟨_, rfl, ?_⟩) | ((with_reducible refine gate_callee (f := 22) rfl ?_); refine goesL_ (some 20) rfl rfl Try.func22 (by kernel_rfl) rfl #[.int .i64 30, .int .u32 a1, .int .u32 a0] rfl (by (try simp only [List.map_toArray, List.map_cons, List.map_nil]); first | done | rfl | (simp only [List.length_drop, List.length_take]; rfl)) ?_; (with_reducible refine (whetstonelaw01_does.calls k 30 a1 a0 t242 _ A6.out).mono ?_); rintro e w' ⟨rfl, ⟨nd, rfl⟩⟩; refine ⟨_, rfl, ?_⟩) | (go_at_call 22; (with_reducible refine (whetstonelaw01_does.calls k 31 (Go.bits .xor .u32 a0 2147483648) (Go.bits .xor .u32 a1 2147483648) t243 _ A11.out).mono ?_); rintro e w' ⟨rfl, ⟨nd, rfl⟩⟩) | (go_at_call 13; (with_reducible refine (whetstonelaw01_fixed.calls k  t244 _ A13.out).mono ?_); rintro e w' ⟨rfl, ⟨nd, rfl⟩⟩))
            go_ret
            exact ⟨by first | rfl | (simp; done) | (simp [*]; done), by repeat (first | exact Drawn0.refl _ | apply Drawn0.step)⟩
          · rw [if_neg c12] at H
            have c12b0 : (t241 == t243) = false := beq_eq_false_iff_ne.mpr c12
            have c12b1 : (t241 != t243) = true := bne_iff_ne.mpr c12
            obtain rfl := Option.some.inj H
            go_enter Try.func9, Try.ntmps9
            go_wp2_with (first | ((with_reducible refine gate_callee (f := 22) rfl ?_); refine goesL_ (some 11) rfl rfl Try.func22 (by kernel_rfl) rfl #[.int .i64 31, .int .u32 a0, .int .u32 a1] rfl (by (try simp only [List.map_toArray, List.map_cons, List.map_nil]); first | done | rfl | (simp only [List.length_drop, List.length_take]; rfl)) ?_; (with_reducible refine (whetstonelaw01_does.calls k 31 a0 a1 t239 _ A3.out).mono ?_); rintro e w' ⟨rfl, ⟨nd, rfl⟩⟩; refine ⟨_, rfl, ?_⟩) | ((with_reducible refine gate_callee (f := 22) rfl ?_); refine goesL_ (some 14) rfl rfl Try.func22 (by kernel_rfl) rfl #[.int .i64 31, .int .u32 a1, .int .u32 a0] rfl (by (try simp only [List.map_toArray, List.map_cons, List.map_nil]); first | done | rfl | (simp only [List.length_drop, List.length_take]; rfl)) ?_; (with_reducible refine (whetstonelaw01_does.calls k 31 a1 a0 t240 _ A4.out).mono ?_); rintro e w' ⟨rfl, ⟨nd, rfl⟩⟩; refine ⟨_, rfl, ?_⟩) | ((with_reducible refine gate_callee (f := 22) rfl ?_); refine goesL_ (some 17) rfl rfl Try.func22 (by kernel_rfl) rfl #[.int .i64 30, .int .u32 a0, .int .u32 a1] rfl (by (try simp only [List.map_toArray, List.map_cons, List.map_nil]); first | done | rfl | (simp only [List.length_drop, List.length_take]; rfl)) ?_; (with_reducible refine (whetstonelaw01_does.calls k 30 a0 a1 t241 _ A5.out).mono ?_); rintro e w' ⟨rfl, ⟨nd, rfl⟩⟩; refine ⟨_, rfl, ?_⟩) | ((with_reducible refine gate_callee (f := 22) rfl ?_); refine goesL_ (some 20) rfl rfl Try.func22 (by kernel_rfl) rfl #[.int .i64 30, .int .u32 a1, .int .u32 a0] rfl (by (try simp only [List.map_toArray, List.map_cons, List.map_nil]); first | done | rfl | (simp only [List.length_drop, List.length_take]; rfl)) ?_; (with_reducible refine (whetstonelaw01_does.calls k 30 a1 a0 t242 _ A6.out).mono ?_); rintro e w' ⟨rfl, ⟨nd, rfl⟩⟩; refine ⟨_, rfl, ?_⟩) | (go_at_call 22; (with_reducible refine (whetstonelaw01_does.calls k 31 (Go.bits .xor .u32 a0 2147483648) (Go.bits .xor .u32 a1 2147483648) t243 _ A11.out).mono ?_); rintro e w' ⟨rfl, ⟨nd, rfl⟩⟩))
            go_ret
            exact ⟨by first | rfl | (simp; done) | (simp [*]; done), by repeat (first | exact Drawn0.refl _ | apply Drawn0.step)⟩
        · rw [if_neg c10] at H
          have c10b0 : ((((t241 + t242) % 4294967296) == 0) == (a0 == a1)) = false := by simpa using c10
          (try (have c10b1 : decide ((((t241 + t242) % 4294967296) == 0) = (a0 == a1)) = false := by simpa using c10))
          (try (have c10b2 : ((((t241 + t242) % 4294967296) == 0) == (a0 == a1)) = false := by simpa using c10))
          (try (have c10b3 : ¬ ((((t241 + t242) % 4294967296) == 0) = (a0 == a1)) := by simpa using c10))
          clear c10
          obtain rfl := Option.some.inj H
          go_enter Try.func9, Try.ntmps9
          go_wp2_with (first | ((with_reducible refine gate_callee (f := 22) rfl ?_); refine goesL_ (some 11) rfl rfl Try.func22 (by kernel_rfl) rfl #[.int .i64 31, .int .u32 a0, .int .u32 a1] rfl (by (try simp only [List.map_toArray, List.map_cons, List.map_nil]); first | done | rfl | (simp only [List.length_drop, List.length_take]; rfl)) ?_; (with_reducible refine (whetstonelaw01_does.calls k 31 a0 a1 t239 _ A3.out).mono ?_); rintro e w' ⟨rfl, ⟨nd, rfl⟩⟩; refine ⟨_, rfl, ?_⟩) | ((with_reducible refine gate_callee (f := 22) rfl ?_); refine goesL_ (some 14) rfl rfl Try.func22 (by kernel_rfl) rfl #[.int .i64 31, .int .u32 a1, .int .u32 a0] rfl (by (try simp only [List.map_toArray, List.map_cons, List.map_nil]); first | done | rfl | (simp only [List.length_drop, List.length_take]; rfl)) ?_; (with_reducible refine (whetstonelaw01_does.calls k 31 a1 a0 t240 _ A4.out).mono ?_); rintro e w' ⟨rfl, ⟨nd, rfl⟩⟩; refine ⟨_, rfl, ?_⟩) | ((with_reducible refine gate_callee (f := 22) rfl ?_); refine goesL_ (some 17) rfl rfl Try.func22 (by kernel_rfl) rfl #[.int .i64 30, .int .u32 a0, .int .u32 a1] rfl (by (try simp only [List.map_toArray, List.map_cons, List.map_nil]); first | done | rfl | (simp only [List.length_drop, List.length_take]; rfl)) ?_; (with_reducible refine (whetstonelaw01_does.calls k 30 a0 a1 t241 _ A5.out).mono ?_); rintro e w' ⟨rfl, ⟨nd, rfl⟩⟩; refine ⟨_, rfl, ?_⟩) | ((with_reducible refine gate_callee (f := 22) rfl ?_); refine goesL_ (some 20) rfl rfl Try.func22 (by kernel_rfl) rfl #[.int .i64 30, .int .u32 a1, .int .u32 a0] rfl (by (try simp only [List.map_toArray, List.map_cons, List.map_nil]); first | done | rfl | (simp only [List.length_drop, List.length_take]; rfl)) ?_; (with_reducible refine (whetstonelaw01_does.calls k 30 a1 a0 t242 _ A6.out).mono ?_); rintro e w' ⟨rfl, ⟨nd, rfl⟩⟩; refine ⟨_, rfl, ?_⟩))
          go_ret
          exact ⟨by first | rfl | (simp; done) | (simp [*]; done), by repeat (first | exact Drawn0.refl _ | apply Drawn0.step)⟩
      · rw [if_neg c9] at H
        have c9b0 : ((((t239 + t240) % 4294967296) == 0) == (a0 == a1)) = false := by simpa using c9
        (try (have c9b1 : decide ((((t239 + t240) % 4294967296) == 0) = (a0 == a1)) = false := by simpa using c9))
        (try (have c9b2 : ((((t239 + t240) % 4294967296) == 0) == (a0 == a1)) = false := by simpa using c9))
        (try (have c9b3 : ¬ ((((t239 + t240) % 4294967296) == 0) = (a0 == a1)) := by simpa using c9))
        clear c9
        obtain rfl := Option.some.inj H
        go_enter Try.func9, Try.ntmps9
        go_wp2_with (first | ((with_reducible refine gate_callee (f := 22) rfl ?_); refine goesL_ (some 11) rfl rfl Try.func22 (by kernel_rfl) rfl #[.int .i64 31, .int .u32 a0, .int .u32 a1] rfl (by (try simp only [List.map_toArray, List.map_cons, List.map_nil]); first | done | rfl | (simp only [List.length_drop, List.length_take]; rfl)) ?_; (with_reducible refine (whetstonelaw01_does.calls k 31 a0 a1 t239 _ A3.out).mono ?_); rintro e w' ⟨rfl, ⟨nd, rfl⟩⟩; refine ⟨_, rfl, ?_⟩) | ((with_reducible refine gate_callee (f := 22) rfl ?_); refine goesL_ (some 14) rfl rfl Try.func22 (by kernel_rfl) rfl #[.int .i64 31, .int .u32 a1, .int .u32 a0] rfl (by (try simp only [List.map_toArray, List.map_cons, List.map_nil]); first | done | rfl | (simp only [List.length_drop, List.length_take]; rfl)) ?_; (with_reducible refine (whetstonelaw01_does.calls k 31 a1 a0 t240 _ A4.out).mono ?_); rintro e w' ⟨rfl, ⟨nd, rfl⟩⟩; refine ⟨_, rfl, ?_⟩) | ((with_reducible refine gate_callee (f := 22) rfl ?_); refine goesL_ (some 17) rfl rfl Try.func22 (by kernel_rfl) rfl #[.int .i64 30, .int .u32 a0, .int .u32 a1] rfl (by (try simp only [List.map_toArray, List.map_cons, List.map_nil]); first | done | rfl | (simp only [List.length_drop, List.length_take]; rfl)) ?_; (with_reducible refine (whetstonelaw01_does.calls k 30 a0 a1 t241 _ A5.out).mono ?_); rintro e w' ⟨rfl, ⟨nd, rfl⟩⟩; refine ⟨_, rfl, ?_⟩) | ((with_reducible refine gate_callee (f := 22) rfl ?_); refine goesL_ (some 20) rfl rfl Try.func22 (by kernel_rfl) rfl #[.int .i64 30, .int .u32 a1, .int .u32 a0] rfl (by (try simp only [List.map_toArray, List.map_cons, List.map_nil]); first | done | rfl | (simp only [List.length_drop, List.length_take]; rfl)) ?_; (with_reducible refine (whetstonelaw01_does.calls k 30 a1 a0 t242 _ A6.out).mono ?_); rintro e w' ⟨rfl, ⟨nd, rfl⟩⟩; refine ⟨_, rfl, ?_⟩))
        go_ret
        exact ⟨by first | rfl | (simp; done) | (simp [*]; done), by repeat (first | exact Drawn0.refl _ | apply Drawn0.step)⟩
    · rw [if_neg c8] at H
      have c8b0 : decide (((t241 + t242) % 4294967296) ≤ 1) = false := decide_eq_false c8
      clear c8
      obtain rfl := Option.some.inj H
      go_enter Try.func9, Try.ntmps9
      go_wp2_with (first | ((with_reducible refine gate_callee (f := 22) rfl ?_); refine goesL_ (some 11) rfl rfl Try.func22 (by kernel_rfl) rfl #[.int .i64 31, .int .u32 a0, .int .u32 a1] rfl (by (try simp only [List.map_toArray, List.map_cons, List.map_nil]); first | done | rfl | (simp only [List.length_drop, List.length_take]; rfl)) ?_; (with_reducible refine (whetstonelaw01_does.calls k 31 a0 a1 t239 _ A3.out).mono ?_); rintro e w' ⟨rfl, ⟨nd, rfl⟩⟩; refine ⟨_, rfl, ?_⟩) | ((with_reducible refine gate_callee (f := 22) rfl ?_); refine goesL_ (some 14) rfl rfl Try.func22 (by kernel_rfl) rfl #[.int .i64 31, .int .u32 a1, .int .u32 a0] rfl (by (try simp only [List.map_toArray, List.map_cons, List.map_nil]); first | done | rfl | (simp only [List.length_drop, List.length_take]; rfl)) ?_; (with_reducible refine (whetstonelaw01_does.calls k 31 a1 a0 t240 _ A4.out).mono ?_); rintro e w' ⟨rfl, ⟨nd, rfl⟩⟩; refine ⟨_, rfl, ?_⟩) | ((with_reducible refine gate_callee (f := 22) rfl ?_); refine goesL_ (some 17) rfl rfl Try.func22 (by kernel_rfl) rfl #[.int .i64 30, .int .u32 a0, .int .u32 a1] rfl (by (try simp only [List.map_toArray, List.map_cons, List.map_nil]); first | done | rfl | (simp only [List.length_drop, List.length_take]; rfl)) ?_; (with_reducible refine (whetstonelaw01_does.calls k 30 a0 a1 t241 _ A5.out).mono ?_); rintro e w' ⟨rfl, ⟨nd, rfl⟩⟩; refine ⟨_, rfl, ?_⟩) | ((with_reducible refine gate_callee (f := 22) rfl ?_); refine goesL_ (some 20) rfl rfl Try.func22 (by kernel_rfl) rfl #[.int .i64 30, .int .u32 a1, .int .u32 a0] rfl (by (try simp only [List.map_toArray, List.map_cons, List.map_nil]); first | done | rfl | (simp only [List.length_drop, List.length_take]; rfl)) ?_; (with_reducible refine (whetstonelaw01_does.calls k 30 a1 a0 t242 _ A6.out).mono ?_); rintro e w' ⟨rfl, ⟨nd, rfl⟩⟩; refine ⟨_, rfl, ?_⟩))
      go_ret
      exact ⟨by first | rfl | (simp; done) | (simp [*]; done), by repeat (first | exact Drawn0.refl _ | apply Drawn0.step)⟩
  · rw [if_neg c7] at H
    have c7b0 : decide (((t239 + t240) % 4294967296) ≤ 1) = false := decide_eq_false c7
    clear c7
    obtain rfl := Option.some.inj H
    go_enter Try.func9, Try.ntmps9
    go_wp2_with (first | ((with_reducible refine gate_callee (f := 22) rfl ?_); refine goesL_ (some 11) rfl rfl Try.func22 (by kernel_rfl) rfl #[.int .i64 31, .int .u32 a0, .int .u32 a1] rfl (by (try simp only [List.map_toArray, List.map_cons, List.map_nil]); first | done | rfl | (simp only [List.length_drop, List.length_take]; rfl)) ?_; (with_reducible refine (whetstonelaw01_does.calls k 31 a0 a1 t239 _ A3.out).mono ?_); rintro e w' ⟨rfl, ⟨nd, rfl⟩⟩; refine ⟨_, rfl, ?_⟩) | ((with_reducible refine gate_callee (f := 22) rfl ?_); refine goesL_ (some 14) rfl rfl Try.func22 (by kernel_rfl) rfl #[.int .i64 31, .int .u32 a1, .int .u32 a0] rfl (by (try simp only [List.map_toArray, List.map_cons, List.map_nil]); first | done | rfl | (simp only [List.length_drop, List.length_take]; rfl)) ?_; (with_reducible refine (whetstonelaw01_does.calls k 31 a1 a0 t240 _ A4.out).mono ?_); rintro e w' ⟨rfl, ⟨nd, rfl⟩⟩; refine ⟨_, rfl, ?_⟩) | ((with_reducible refine gate_callee (f := 22) rfl ?_); refine goesL_ (some 17) rfl rfl Try.func22 (by kernel_rfl) rfl #[.int .i64 30, .int .u32 a0, .int .u32 a1] rfl (by (try simp only [List.map_toArray, List.map_cons, List.map_nil]); first | done | rfl | (simp only [List.length_drop, List.length_take]; rfl)) ?_; (with_reducible refine (whetstonelaw01_does.calls k 30 a0 a1 t241 _ A5.out).mono ?_); rintro e w' ⟨rfl, ⟨nd, rfl⟩⟩; refine ⟨_, rfl, ?_⟩) | ((with_reducible refine gate_callee (f := 22) rfl ?_); refine goesL_ (some 20) rfl rfl Try.func22 (by kernel_rfl) rfl #[.int .i64 30, .int .u32 a1, .int .u32 a0] rfl (by (try simp only [List.map_toArray, List.map_cons, List.map_nil]); first | done | rfl | (simp only [List.length_drop, List.length_take]; rfl)) ?_; (with_reducible refine (whetstonelaw01_does.calls k 30 a1 a0 t242 _ A6.out).mono ?_); rintro e w' ⟨rfl, ⟨nd, rfl⟩⟩; refine ⟨_, rfl, ?_⟩))
    go_ret
    exact ⟨by first | rfl | (simp; done) | (simp [*]; done), by repeat (first | exact Drawn0.refl _ | apply Drawn0.step)⟩

/-- THE ONE PURE STATEMENT of whetstonelaw01_WordOrders: yours. -/
def whetstonelaw01_WordOrders.Pure : Prop := ∀ (a0 : Int) (a1 : Int), (Lit.int .u32 a0).wf = true → (Lit.int .u32 a1).wf = true → ∃ k, whetstonelaw01_WordOrders.f k a0 a1 = some true
theorem whetstonelaw01_WordOrders.walk (P : whetstonelaw01_WordOrders.Pure) (a0 : Int) (a1 : Int) (w : World) (w0 : (Lit.int .u32 a0).wf = true) (w1 : (Lit.int .u32 a1).wf = true) :
    Calls Try.prog 9 #[.int .u32 a0, .int .u32 a1] w fun e w' => e = .returned (.bool true) ∧ Below w.heap.size w w' := by
  obtain ⟨k, h⟩ := P a0 a1 w0 w1
  refine (whetstonelaw01_WordOrders.calls k a0 a1 true w h).mono ?_
  rintro e w' ⟨rfl, hd⟩
  exact ⟨rfl, hd.below⟩

/-! ### whetstonelaw01_WordTwos: function 10 -/
def whetstonelaw01_WordTwos.f (k : Nat) (a0 : Int) (a1 : Int) : Option (Bool) := (whetstonelaw01_does.f k 28 0 a1).bind fun t245 => ((whetstonelaw01_does.f k 27 a1 t245).bind fun t246 => (if t246 = 0 then ((whetstonelaw01_does.f k 27 a0 t245).bind fun t247 => ((whetstonelaw01_does.f k 28 a0 a1).bind fun t248 => (if t247 = t248 then ((whetstonelaw01_does.f k 32 a1 4294967295).bind fun t249 => ((whetstonelaw01_does.f k 27 t249 1).bind fun t250 => (if t250 = t245 then ((whetstonelaw01_fixed.f k).bind fun t251 => (some t251)) else (some false)))) else (some false)))) else (some false)))
theorem whetstonelaw01_WordTwos.mono : ∀ a0 a1 k, LeO (whetstonelaw01_WordTwos.f k a0 a1) (whetstonelaw01_WordTwos.f (k + 1) a0 a1) := by
  intro a0 a1 k
  unfold whetstonelaw01_WordTwos.f
  repeat' first
      | (with_reducible exact whetstonelaw01_does.mono _ _ _ _)
      | (with_reducible exact whetstonelaw01_fixed.mono _)
      | (with_reducible exact LeO.refl _)
      | (with_reducible exact LeO.none _)
      | (with_reducible refine LeO.ite ?_ ?_)
      | (with_reducible refine LeO.bind ?_ (fun _ => ?_))
      | exact whetstonelaw01_does.mono _ _ _ _
      | exact whetstonelaw01_fixed.mono _
      | exact LeO.none _
      | refine LeO.ite ?_ ?_
      | refine LeO.bind ?_ (fun _ => ?_)
set_option maxHeartbeats 8000000 in
set_option maxRecDepth 100000 in
theorem whetstonelaw01_WordTwos.calls (k : Nat) (a0 : Int) (a1 : Int) (r : Bool) (w : World) (h : whetstonelaw01_WordTwos.f k a0 a1 = some r) :
    Calls Try.prog 10 #[.int .u32 a0, .int .u32 a1] w fun e w' => e = .returned (.bool r) ∧ Drawn0 w w' := by
  have H : ((whetstonelaw01_does.f k 28 0 a1).bind fun t245 => ((whetstonelaw01_does.f k 27 a1 t245).bind fun t246 => (if t246 = 0 then ((whetstonelaw01_does.f k 27 a0 t245).bind fun t247 => ((whetstonelaw01_does.f k 28 a0 a1).bind fun t248 => (if t247 = t248 then ((whetstonelaw01_does.f k 32 a1 4294967295).bind fun t249 => ((whetstonelaw01_does.f k 27 t249 1).bind fun t250 => (if t250 = t245 then ((whetstonelaw01_fixed.f k).bind fun t251 => (some t251)) else (some false)))) else (some false)))) else (some false)))) = some r := h
  clear h
  replace H := Option.bind_eq_some_iff.mp H
  obtain ⟨t245, A30, H⟩ := H
  replace H : ((whetstonelaw01_does.f k 27 a1 t245).bind fun t246 => (if t246 = 0 then ((whetstonelaw01_does.f k 27 a0 t245).bind fun t247 => ((whetstonelaw01_does.f k 28 a0 a1).bind fun t248 => (if t247 = t248 then ((whetstonelaw01_does.f k 32 a1 4294967295).bind fun t249 => ((whetstonelaw01_does.f k 27 t249 1).bind fun t250 => (if t250 = t245 then ((whetstonelaw01_fixed.f k).bind fun t251 => (some t251)) else (some false)))) else (some false)))) else (some false))) = some r := H
  have A3 := Aside0.mk A30
  clear A30
  replace H := Option.bind_eq_some_iff.mp H
  obtain ⟨t246, A40, H⟩ := H
  replace H : (if t246 = 0 then ((whetstonelaw01_does.f k 27 a0 t245).bind fun t247 => ((whetstonelaw01_does.f k 28 a0 a1).bind fun t248 => (if t247 = t248 then ((whetstonelaw01_does.f k 32 a1 4294967295).bind fun t249 => ((whetstonelaw01_does.f k 27 t249 1).bind fun t250 => (if t250 = t245 then ((whetstonelaw01_fixed.f k).bind fun t251 => (some t251)) else (some false)))) else (some false)))) else (some false)) = some r := H
  have A4 := Aside0.mk A40
  clear A40
  by_cases c5 : t246 = 0
  · rw [if_pos c5] at H
    have c5b0 : (t246 == 0) = true := beq_iff_eq.mpr c5
    have c5b1 : (t246 != 0) = false := bne_eq_false_iff_eq.mpr c5
    clear c5
    replace H := Option.bind_eq_some_iff.mp H
    obtain ⟨t247, A60, H⟩ := H
    replace H : ((whetstonelaw01_does.f k 28 a0 a1).bind fun t248 => (if t247 = t248 then ((whetstonelaw01_does.f k 32 a1 4294967295).bind fun t249 => ((whetstonelaw01_does.f k 27 t249 1).bind fun t250 => (if t250 = t245 then ((whetstonelaw01_fixed.f k).bind fun t251 => (some t251)) else (some false)))) else (some false))) = some r := H
    have A6 := Aside0.mk A60
    clear A60
    replace H := Option.bind_eq_some_iff.mp H
    obtain ⟨t248, A70, H⟩ := H
    replace H : (if t247 = t248 then ((whetstonelaw01_does.f k 32 a1 4294967295).bind fun t249 => ((whetstonelaw01_does.f k 27 t249 1).bind fun t250 => (if t250 = t245 then ((whetstonelaw01_fixed.f k).bind fun t251 => (some t251)) else (some false)))) else (some false)) = some r := H
    have A7 := Aside0.mk A70
    clear A70
    by_cases c8 : t247 = t248
    · rw [if_pos c8] at H
      have c8b0 : (t247 == t248) = true := beq_iff_eq.mpr c8
      have c8b1 : (t247 != t248) = false := bne_eq_false_iff_eq.mpr c8
      clear c8
      replace H := Option.bind_eq_some_iff.mp H
      obtain ⟨t249, A90, H⟩ := H
      replace H : ((whetstonelaw01_does.f k 27 t249 1).bind fun t250 => (if t250 = t245 then ((whetstonelaw01_fixed.f k).bind fun t251 => (some t251)) else (some false))) = some r := H
      have A9 := Aside0.mk A90
      clear A90
      replace H := Option.bind_eq_some_iff.mp H
      obtain ⟨t250, A100, H⟩ := H
      replace H : (if t250 = t245 then ((whetstonelaw01_fixed.f k).bind fun t251 => (some t251)) else (some false)) = some r := H
      have A10 := Aside0.mk A100
      clear A100
      by_cases c11 : t250 = t245
      · rw [if_pos c11] at H
        have c11b0 : (t250 == t245) = true := beq_iff_eq.mpr c11
        have c11b1 : (t250 != t245) = false := bne_eq_false_iff_eq.mpr c11
        clear c11
        replace H := Option.bind_eq_some_iff.mp H
        obtain ⟨t251, A120, H⟩ := H
        replace H : (some t251) = some r := H
        have A12 := Aside0.mk A120
        clear A120
        obtain rfl := Option.some.inj H
        go_enter Try.func10, Try.ntmps10
        go_wp2_with (first | ((with_reducible refine gate_callee (f := 22) rfl ?_); refine goesL_ (some 7) rfl rfl Try.func22 (by kernel_rfl) rfl #[.int .i64 28, .int .u32 0, .int .u32 a1] rfl (by (try simp only [List.map_toArray, List.map_cons, List.map_nil]); first | done | rfl | (simp only [List.length_drop, List.length_take]; rfl)) ?_; (with_reducible refine (whetstonelaw01_does.calls k 28 0 a1 t245 _ A3.out).mono ?_); rintro e w' ⟨rfl, ⟨nd, rfl⟩⟩; refine ⟨_, rfl, ?_⟩) | ((with_reducible refine gate_callee (f := 22) rfl ?_); refine goesL_ (some 10) rfl rfl Try.func22 (by kernel_rfl) rfl #[.int .i64 27, .int .u32 a1, .int .u32 t245] rfl (by (try simp only [List.map_toArray, List.map_cons, List.map_nil]); first | done | rfl | (simp only [List.length_drop, List.length_take]; rfl)) ?_; (with_reducible refine (whetstonelaw01_does.calls k 27 a1 t245 t246 _ A4.out).mono ?_); rintro e w' ⟨rfl, ⟨nd, rfl⟩⟩; refine ⟨_, rfl, ?_⟩) | (go_at_call 22; (with_reducible refine (whetstonelaw01_does.calls k 27 a0 t245 t247 _ A6.out).mono ?_); rintro e w' ⟨rfl, ⟨nd, rfl⟩⟩) | (go_at_call 22; (with_reducible refine (whetstonelaw01_does.calls k 28 a0 a1 t248 _ A7.out).mono ?_); rintro e w' ⟨rfl, ⟨nd, rfl⟩⟩) | (go_at_call 22; (with_reducible refine (whetstonelaw01_does.calls k 32 a1 4294967295 t249 _ A9.out).mono ?_); rintro e w' ⟨rfl, ⟨nd, rfl⟩⟩) | (go_at_call 22; (with_reducible refine (whetstonelaw01_does.calls k 27 t249 1 t250 _ A10.out).mono ?_); rintro e w' ⟨rfl, ⟨nd, rfl⟩⟩) | (go_at_call 13; (with_reducible refine (whetstonelaw01_fixed.calls k  t251 _ A12.out).mono ?_); rintro e w' ⟨rfl, ⟨nd, rfl⟩⟩))
        go_ret
        exact ⟨by first | rfl | (simp; done) | (simp [*]; done), by repeat (first | exact Drawn0.refl _ | apply Drawn0.step)⟩
      · rw [if_neg c11] at H
        have c11b0 : (t250 == t245) = false := beq_eq_false_iff_ne.mpr c11
        have c11b1 : (t250 != t245) = true := bne_iff_ne.mpr c11
        obtain rfl := Option.some.inj H
        go_enter Try.func10, Try.ntmps10
        go_wp2_with (first | ((with_reducible refine gate_callee (f := 22) rfl ?_); refine goesL_ (some 7) rfl rfl Try.func22 (by kernel_rfl) rfl #[.int .i64 28, .int .u32 0, .int .u32 a1] rfl (by (try simp only [List.map_toArray, List.map_cons, List.map_nil]); first | done | rfl | (simp only [List.length_drop, List.length_take]; rfl)) ?_; (with_reducible refine (whetstonelaw01_does.calls k 28 0 a1 t245 _ A3.out).mono ?_); rintro e w' ⟨rfl, ⟨nd, rfl⟩⟩; refine ⟨_, rfl, ?_⟩) | ((with_reducible refine gate_callee (f := 22) rfl ?_); refine goesL_ (some 10) rfl rfl Try.func22 (by kernel_rfl) rfl #[.int .i64 27, .int .u32 a1, .int .u32 t245] rfl (by (try simp only [List.map_toArray, List.map_cons, List.map_nil]); first | done | rfl | (simp only [List.length_drop, List.length_take]; rfl)) ?_; (with_reducible refine (whetstonelaw01_does.calls k 27 a1 t245 t246 _ A4.out).mono ?_); rintro e w' ⟨rfl, ⟨nd, rfl⟩⟩; refine ⟨_, rfl, ?_⟩) | (go_at_call 22; (with_reducible refine (whetstonelaw01_does.calls k 27 a0 t245 t247 _ A6.out).mono ?_); rintro e w' ⟨rfl, ⟨nd, rfl⟩⟩) | (go_at_call 22; (with_reducible refine (whetstonelaw01_does.calls k 28 a0 a1 t248 _ A7.out).mono ?_); rintro e w' ⟨rfl, ⟨nd, rfl⟩⟩) | (go_at_call 22; (with_reducible refine (whetstonelaw01_does.calls k 32 a1 4294967295 t249 _ A9.out).mono ?_); rintro e w' ⟨rfl, ⟨nd, rfl⟩⟩) | (go_at_call 22; (with_reducible refine (whetstonelaw01_does.calls k 27 t249 1 t250 _ A10.out).mono ?_); rintro e w' ⟨rfl, ⟨nd, rfl⟩⟩))
        go_ret
        exact ⟨by first | rfl | (simp; done) | (simp [*]; done), by repeat (first | exact Drawn0.refl _ | apply Drawn0.step)⟩
    · rw [if_neg c8] at H
      have c8b0 : (t247 == t248) = false := beq_eq_false_iff_ne.mpr c8
      have c8b1 : (t247 != t248) = true := bne_iff_ne.mpr c8
      obtain rfl := Option.some.inj H
      go_enter Try.func10, Try.ntmps10
      go_wp2_with (first | ((with_reducible refine gate_callee (f := 22) rfl ?_); refine goesL_ (some 7) rfl rfl Try.func22 (by kernel_rfl) rfl #[.int .i64 28, .int .u32 0, .int .u32 a1] rfl (by (try simp only [List.map_toArray, List.map_cons, List.map_nil]); first | done | rfl | (simp only [List.length_drop, List.length_take]; rfl)) ?_; (with_reducible refine (whetstonelaw01_does.calls k 28 0 a1 t245 _ A3.out).mono ?_); rintro e w' ⟨rfl, ⟨nd, rfl⟩⟩; refine ⟨_, rfl, ?_⟩) | ((with_reducible refine gate_callee (f := 22) rfl ?_); refine goesL_ (some 10) rfl rfl Try.func22 (by kernel_rfl) rfl #[.int .i64 27, .int .u32 a1, .int .u32 t245] rfl (by (try simp only [List.map_toArray, List.map_cons, List.map_nil]); first | done | rfl | (simp only [List.length_drop, List.length_take]; rfl)) ?_; (with_reducible refine (whetstonelaw01_does.calls k 27 a1 t245 t246 _ A4.out).mono ?_); rintro e w' ⟨rfl, ⟨nd, rfl⟩⟩; refine ⟨_, rfl, ?_⟩) | (go_at_call 22; (with_reducible refine (whetstonelaw01_does.calls k 27 a0 t245 t247 _ A6.out).mono ?_); rintro e w' ⟨rfl, ⟨nd, rfl⟩⟩) | (go_at_call 22; (with_reducible refine (whetstonelaw01_does.calls k 28 a0 a1 t248 _ A7.out).mono ?_); rintro e w' ⟨rfl, ⟨nd, rfl⟩⟩))
      go_ret
      exact ⟨by first | rfl | (simp; done) | (simp [*]; done), by repeat (first | exact Drawn0.refl _ | apply Drawn0.step)⟩
  · rw [if_neg c5] at H
    have c5b0 : (t246 == 0) = false := beq_eq_false_iff_ne.mpr c5
    have c5b1 : (t246 != 0) = true := bne_iff_ne.mpr c5
    obtain rfl := Option.some.inj H
    go_enter Try.func10, Try.ntmps10
    go_wp2_with (first | ((with_reducible refine gate_callee (f := 22) rfl ?_); refine goesL_ (some 7) rfl rfl Try.func22 (by kernel_rfl) rfl #[.int .i64 28, .int .u32 0, .int .u32 a1] rfl (by (try simp only [List.map_toArray, List.map_cons, List.map_nil]); first | done | rfl | (simp only [List.length_drop, List.length_take]; rfl)) ?_; (with_reducible refine (whetstonelaw01_does.calls k 28 0 a1 t245 _ A3.out).mono ?_); rintro e w' ⟨rfl, ⟨nd, rfl⟩⟩; refine ⟨_, rfl, ?_⟩) | ((with_reducible refine gate_callee (f := 22) rfl ?_); refine goesL_ (some 10) rfl rfl Try.func22 (by kernel_rfl) rfl #[.int .i64 27, .int .u32 a1, .int .u32 t245] rfl (by (try simp only [List.map_toArray, List.map_cons, List.map_nil]); first | done | rfl | (simp only [List.length_drop, List.length_take]; rfl)) ?_; (with_reducible refine (whetstonelaw01_does.calls k 27 a1 t245 t246 _ A4.out).mono ?_); rintro e w' ⟨rfl, ⟨nd, rfl⟩⟩; refine ⟨_, rfl, ?_⟩))
    go_ret
    exact ⟨by first | rfl | (simp; done) | (simp [*]; done), by repeat (first | exact Drawn0.refl _ | apply Drawn0.step)⟩

/-- THE ONE PURE STATEMENT of whetstonelaw01_WordTwos: yours. -/
def whetstonelaw01_WordTwos.Pure : Prop := ∀ (a0 : Int) (a1 : Int), (Lit.int .u32 a0).wf = true → (Lit.int .u32 a1).wf = true → ∃ k, whetstonelaw01_WordTwos.f k a0 a1 = some true
theorem whetstonelaw01_WordTwos.walk (P : whetstonelaw01_WordTwos.Pure) (a0 : Int) (a1 : Int) (w : World) (w0 : (Lit.int .u32 a0).wf = true) (w1 : (Lit.int .u32 a1).wf = true) :
    Calls Try.prog 10 #[.int .u32 a0, .int .u32 a1] w fun e w' => e = .returned (.bool true) ∧ Below w.heap.size w w' := by
  obtain ⟨k, h⟩ := P a0 a1 w0 w1
  refine (whetstonelaw01_WordTwos.calls k a0 a1 true w h).mono ?_
  rintro e w' ⟨rfl, hd⟩
  exact ⟨rfl, hd.below⟩

/-! ### whetstonelaw01_WordBits: function 11 -/
def whetstonelaw01_WordBits.f (k : Nat) (a0 : Int) (a1 : Int) : Option (Bool) := (whetstonelaw01_does.f k 36 a0 a1).bind fun t252 => ((whetstonelaw01_does.f k 35 a0 a1).bind fun t253 => ((whetstonelaw01_does.f k 32 a0 a1).bind fun t254 => ((whetstonelaw01_does.f k 27 t252 t253).bind fun t255 => ((whetstonelaw01_does.f k 27 a0 a1).bind fun t256 => (if t255 = t256 then ((whetstonelaw01_does.f k 28 t253 t252).bind fun t257 => (if t257 = t254 then ((whetstonelaw01_does.f k 32 t254 a1).bind fun t258 => (if t258 = a0 then ((whetstonelaw01_does.f k 36 t252 t254).bind fun t259 => (if t259 = 0 then ((whetstonelaw01_fixed.f k).bind fun t260 => (some t260)) else (some false))) else (some false))) else (some false))) else (some false))))))
theorem whetstonelaw01_WordBits.mono : ∀ a0 a1 k, LeO (whetstonelaw01_WordBits.f k a0 a1) (whetstonelaw01_WordBits.f (k + 1) a0 a1) := by
  intro a0 a1 k
  unfold whetstonelaw01_WordBits.f
  repeat' first
      | (with_reducible exact whetstonelaw01_does.mono _ _ _ _)
      | (with_reducible exact whetstonelaw01_fixed.mono _)
      | (with_reducible exact LeO.refl _)
      | (with_reducible exact LeO.none _)
      | (with_reducible refine LeO.ite ?_ ?_)
      | (with_reducible refine LeO.bind ?_ (fun _ => ?_))
      | exact whetstonelaw01_does.mono _ _ _ _
      | exact whetstonelaw01_fixed.mono _
      | exact LeO.none _
      | refine LeO.ite ?_ ?_
      | refine LeO.bind ?_ (fun _ => ?_)
set_option maxHeartbeats 8000000 in
set_option maxRecDepth 100000 in
theorem whetstonelaw01_WordBits.calls (k : Nat) (a0 : Int) (a1 : Int) (r : Bool) (w : World) (h : whetstonelaw01_WordBits.f k a0 a1 = some r) :
    Calls Try.prog 11 #[.int .u32 a0, .int .u32 a1] w fun e w' => e = .returned (.bool r) ∧ Drawn0 w w' := by
  have H : ((whetstonelaw01_does.f k 36 a0 a1).bind fun t252 => ((whetstonelaw01_does.f k 35 a0 a1).bind fun t253 => ((whetstonelaw01_does.f k 32 a0 a1).bind fun t254 => ((whetstonelaw01_does.f k 27 t252 t253).bind fun t255 => ((whetstonelaw01_does.f k 27 a0 a1).bind fun t256 => (if t255 = t256 then ((whetstonelaw01_does.f k 28 t253 t252).bind fun t257 => (if t257 = t254 then ((whetstonelaw01_does.f k 32 t254 a1).bind fun t258 => (if t258 = a0 then ((whetstonelaw01_does.f k 36 t252 t254).bind fun t259 => (if t259 = 0 then ((whetstonelaw01_fixed.f k).bind fun t260 => (some t260)) else (some false))) else (some false))) else (some false))) else (some false))))))) = some r := h
  clear h
  replace H := Option.bind_eq_some_iff.mp H
  obtain ⟨t252, A30, H⟩ := H
  replace H : ((whetstonelaw01_does.f k 35 a0 a1).bind fun t253 => ((whetstonelaw01_does.f k 32 a0 a1).bind fun t254 => ((whetstonelaw01_does.f k 27 t252 t253).bind fun t255 => ((whetstonelaw01_does.f k 27 a0 a1).bind fun t256 => (if t255 = t256 then ((whetstonelaw01_does.f k 28 t253 t252).bind fun t257 => (if t257 = t254 then ((whetstonelaw01_does.f k 32 t254 a1).bind fun t258 => (if t258 = a0 then ((whetstonelaw01_does.f k 36 t252 t254).bind fun t259 => (if t259 = 0 then ((whetstonelaw01_fixed.f k).bind fun t260 => (some t260)) else (some false))) else (some false))) else (some false))) else (some false)))))) = some r := H
  have A3 := Aside0.mk A30
  clear A30
  replace H := Option.bind_eq_some_iff.mp H
  obtain ⟨t253, A40, H⟩ := H
  replace H : ((whetstonelaw01_does.f k 32 a0 a1).bind fun t254 => ((whetstonelaw01_does.f k 27 t252 t253).bind fun t255 => ((whetstonelaw01_does.f k 27 a0 a1).bind fun t256 => (if t255 = t256 then ((whetstonelaw01_does.f k 28 t253 t252).bind fun t257 => (if t257 = t254 then ((whetstonelaw01_does.f k 32 t254 a1).bind fun t258 => (if t258 = a0 then ((whetstonelaw01_does.f k 36 t252 t254).bind fun t259 => (if t259 = 0 then ((whetstonelaw01_fixed.f k).bind fun t260 => (some t260)) else (some false))) else (some false))) else (some false))) else (some false))))) = some r := H
  have A4 := Aside0.mk A40
  clear A40
  replace H := Option.bind_eq_some_iff.mp H
  obtain ⟨t254, A50, H⟩ := H
  replace H : ((whetstonelaw01_does.f k 27 t252 t253).bind fun t255 => ((whetstonelaw01_does.f k 27 a0 a1).bind fun t256 => (if t255 = t256 then ((whetstonelaw01_does.f k 28 t253 t252).bind fun t257 => (if t257 = t254 then ((whetstonelaw01_does.f k 32 t254 a1).bind fun t258 => (if t258 = a0 then ((whetstonelaw01_does.f k 36 t252 t254).bind fun t259 => (if t259 = 0 then ((whetstonelaw01_fixed.f k).bind fun t260 => (some t260)) else (some false))) else (some false))) else (some false))) else (some false)))) = some r := H
  have A5 := Aside0.mk A50
  clear A50
  replace H := Option.bind_eq_some_iff.mp H
  obtain ⟨t255, A60, H⟩ := H
  replace H : ((whetstonelaw01_does.f k 27 a0 a1).bind fun t256 => (if t255 = t256 then ((whetstonelaw01_does.f k 28 t253 t252).bind fun t257 => (if t257 = t254 then ((whetstonelaw01_does.f k 32 t254 a1).bind fun t258 => (if t258 = a0 then ((whetstonelaw01_does.f k 36 t252 t254).bind fun t259 => (if t259 = 0 then ((whetstonelaw01_fixed.f k).bind fun t260 => (some t260)) else (some false))) else (some false))) else (some false))) else (some false))) = some r := H
  have A6 := Aside0.mk A60
  clear A60
  replace H := Option.bind_eq_some_iff.mp H
  obtain ⟨t256, A70, H⟩ := H
  replace H : (if t255 = t256 then ((whetstonelaw01_does.f k 28 t253 t252).bind fun t257 => (if t257 = t254 then ((whetstonelaw01_does.f k 32 t254 a1).bind fun t258 => (if t258 = a0 then ((whetstonelaw01_does.f k 36 t252 t254).bind fun t259 => (if t259 = 0 then ((whetstonelaw01_fixed.f k).bind fun t260 => (some t260)) else (some false))) else (some false))) else (some false))) else (some false)) = some r := H
  have A7 := Aside0.mk A70
  clear A70
  by_cases c8 : t255 = t256
  · rw [if_pos c8] at H
    have c8b0 : (t255 == t256) = true := beq_iff_eq.mpr c8
    have c8b1 : (t255 != t256) = false := bne_eq_false_iff_eq.mpr c8
    clear c8
    replace H := Option.bind_eq_some_iff.mp H
    obtain ⟨t257, A90, H⟩ := H
    replace H : (if t257 = t254 then ((whetstonelaw01_does.f k 32 t254 a1).bind fun t258 => (if t258 = a0 then ((whetstonelaw01_does.f k 36 t252 t254).bind fun t259 => (if t259 = 0 then ((whetstonelaw01_fixed.f k).bind fun t260 => (some t260)) else (some false))) else (some false))) else (some false)) = some r := H
    have A9 := Aside0.mk A90
    clear A90
    by_cases c10 : t257 = t254
    · rw [if_pos c10] at H
      have c10b0 : (t257 == t254) = true := beq_iff_eq.mpr c10
      have c10b1 : (t257 != t254) = false := bne_eq_false_iff_eq.mpr c10
      clear c10
      replace H := Option.bind_eq_some_iff.mp H
      obtain ⟨t258, A110, H⟩ := H
      replace H : (if t258 = a0 then ((whetstonelaw01_does.f k 36 t252 t254).bind fun t259 => (if t259 = 0 then ((whetstonelaw01_fixed.f k).bind fun t260 => (some t260)) else (some false))) else (some false)) = some r := H
      have A11 := Aside0.mk A110
      clear A110
      by_cases c12 : t258 = a0
      · rw [if_pos c12] at H
        have c12b0 : (t258 == a0) = true := beq_iff_eq.mpr c12
        have c12b1 : (t258 != a0) = false := bne_eq_false_iff_eq.mpr c12
        clear c12
        replace H := Option.bind_eq_some_iff.mp H
        obtain ⟨t259, A130, H⟩ := H
        replace H : (if t259 = 0 then ((whetstonelaw01_fixed.f k).bind fun t260 => (some t260)) else (some false)) = some r := H
        have A13 := Aside0.mk A130
        clear A130
        by_cases c14 : t259 = 0
        · rw [if_pos c14] at H
          have c14b0 : (t259 == 0) = true := beq_iff_eq.mpr c14
          have c14b1 : (t259 != 0) = false := bne_eq_false_iff_eq.mpr c14
          clear c14
          replace H := Option.bind_eq_some_iff.mp H
          obtain ⟨t260, A150, H⟩ := H
          replace H : (some t260) = some r := H
          have A15 := Aside0.mk A150
          clear A150
          obtain rfl := Option.some.inj H
          go_enter Try.func11, Try.ntmps11
          go_wp2_with (first | ((with_reducible refine gate_callee (f := 22) rfl ?_); refine goesL_ (some 10) rfl rfl Try.func22 (by kernel_rfl) rfl #[.int .i64 36, .int .u32 a0, .int .u32 a1] rfl (by (try simp only [List.map_toArray, List.map_cons, List.map_nil]); first | done | rfl | (simp only [List.length_drop, List.length_take]; rfl)) ?_; (with_reducible refine (whetstonelaw01_does.calls k 36 a0 a1 t252 _ A3.out).mono ?_); rintro e w' ⟨rfl, ⟨nd, rfl⟩⟩; refine ⟨_, rfl, ?_⟩) | ((with_reducible refine gate_callee (f := 22) rfl ?_); refine goesL_ (some 13) rfl rfl Try.func22 (by kernel_rfl) rfl #[.int .i64 35, .int .u32 a0, .int .u32 a1] rfl (by (try simp only [List.map_toArray, List.map_cons, List.map_nil]); first | done | rfl | (simp only [List.length_drop, List.length_take]; rfl)) ?_; (with_reducible refine (whetstonelaw01_does.calls k 35 a0 a1 t253 _ A4.out).mono ?_); rintro e w' ⟨rfl, ⟨nd, rfl⟩⟩; refine ⟨_, rfl, ?_⟩) | ((with_reducible refine gate_callee (f := 22) rfl ?_); refine goesL_ (some 16) rfl rfl Try.func22 (by kernel_rfl) rfl #[.int .i64 32, .int .u32 a0, .int .u32 a1] rfl (by (try simp only [List.map_toArray, List.map_cons, List.map_nil]); first | done | rfl | (simp only [List.length_drop, List.length_take]; rfl)) ?_; (with_reducible refine (whetstonelaw01_does.calls k 32 a0 a1 t254 _ A5.out).mono ?_); rintro e w' ⟨rfl, ⟨nd, rfl⟩⟩; refine ⟨_, rfl, ?_⟩) | ((with_reducible refine gate_callee (f := 22) rfl ?_); refine goesL_ (some 19) rfl rfl Try.func22 (by kernel_rfl) rfl #[.int .i64 27, .int .u32 t252, .int .u32 t253] rfl (by (try simp only [List.map_toArray, List.map_cons, List.map_nil]); first | done | rfl | (simp only [List.length_drop, List.length_take]; rfl)) ?_; (with_reducible refine (whetstonelaw01_does.calls k 27 t252 t253 t255 _ A6.out).mono ?_); rintro e w' ⟨rfl, ⟨nd, rfl⟩⟩; refine ⟨_, rfl, ?_⟩) | ((with_reducible refine gate_callee (f := 22) rfl ?_); refine goesL_ (some 22) rfl rfl Try.func22 (by kernel_rfl) rfl #[.int .i64 27, .int .u32 a0, .int .u32 a1] rfl (by (try simp only [List.map_toArray, List.map_cons, List.map_nil]); first | done | rfl | (simp only [List.length_drop, List.length_take]; rfl)) ?_; (with_reducible refine (whetstonelaw01_does.calls k 27 a0 a1 t256 _ A7.out).mono ?_); rintro e w' ⟨rfl, ⟨nd, rfl⟩⟩; refine ⟨_, rfl, ?_⟩) | (go_at_call 22; (with_reducible refine (whetstonelaw01_does.calls k 28 t253 t252 t257 _ A9.out).mono ?_); rintro e w' ⟨rfl, ⟨nd, rfl⟩⟩) | (go_at_call 22; (with_reducible refine (whetstonelaw01_does.calls k 32 t254 a1 t258 _ A11.out).mono ?_); rintro e w' ⟨rfl, ⟨nd, rfl⟩⟩) | (go_at_call 22; (with_reducible refine (whetstonelaw01_does.calls k 36 t252 t254 t259 _ A13.out).mono ?_); rintro e w' ⟨rfl, ⟨nd, rfl⟩⟩) | (go_at_call 13; (with_reducible refine (whetstonelaw01_fixed.calls k  t260 _ A15.out).mono ?_); rintro e w' ⟨rfl, ⟨nd, rfl⟩⟩))
          go_ret
          exact ⟨by first | rfl | (simp; done) | (simp [*]; done), by repeat (first | exact Drawn0.refl _ | apply Drawn0.step)⟩
        · rw [if_neg c14] at H
          have c14b0 : (t259 == 0) = false := beq_eq_false_iff_ne.mpr c14
          have c14b1 : (t259 != 0) = true := bne_iff_ne.mpr c14
          obtain rfl := Option.some.inj H
          go_enter Try.func11, Try.ntmps11
          go_wp2_with (first | ((with_reducible refine gate_callee (f := 22) rfl ?_); refine goesL_ (some 10) rfl rfl Try.func22 (by kernel_rfl) rfl #[.int .i64 36, .int .u32 a0, .int .u32 a1] rfl (by (try simp only [List.map_toArray, List.map_cons, List.map_nil]); first | done | rfl | (simp only [List.length_drop, List.length_take]; rfl)) ?_; (with_reducible refine (whetstonelaw01_does.calls k 36 a0 a1 t252 _ A3.out).mono ?_); rintro e w' ⟨rfl, ⟨nd, rfl⟩⟩; refine ⟨_, rfl, ?_⟩) | ((with_reducible refine gate_callee (f := 22) rfl ?_); refine goesL_ (some 13) rfl rfl Try.func22 (by kernel_rfl) rfl #[.int .i64 35, .int .u32 a0, .int .u32 a1] rfl (by (try simp only [List.map_toArray, List.map_cons, List.map_nil]); first | done | rfl | (simp only [List.length_drop, List.length_take]; rfl)) ?_; (with_reducible refine (whetstonelaw01_does.calls k 35 a0 a1 t253 _ A4.out).mono ?_); rintro e w' ⟨rfl, ⟨nd, rfl⟩⟩; refine ⟨_, rfl, ?_⟩) | ((with_reducible refine gate_callee (f := 22) rfl ?_); refine goesL_ (some 16) rfl rfl Try.func22 (by kernel_rfl) rfl #[.int .i64 32, .int .u32 a0, .int .u32 a1] rfl (by (try simp only [List.map_toArray, List.map_cons, List.map_nil]); first | done | rfl | (simp only [List.length_drop, List.length_take]; rfl)) ?_; (with_reducible refine (whetstonelaw01_does.calls k 32 a0 a1 t254 _ A5.out).mono ?_); rintro e w' ⟨rfl, ⟨nd, rfl⟩⟩; refine ⟨_, rfl, ?_⟩) | ((with_reducible refine gate_callee (f := 22) rfl ?_); refine goesL_ (some 19) rfl rfl Try.func22 (by kernel_rfl) rfl #[.int .i64 27, .int .u32 t252, .int .u32 t253] rfl (by (try simp only [List.map_toArray, List.map_cons, List.map_nil]); first | done | rfl | (simp only [List.length_drop, List.length_take]; rfl)) ?_; (with_reducible refine (whetstonelaw01_does.calls k 27 t252 t253 t255 _ A6.out).mono ?_); rintro e w' ⟨rfl, ⟨nd, rfl⟩⟩; refine ⟨_, rfl, ?_⟩) | ((with_reducible refine gate_callee (f := 22) rfl ?_); refine goesL_ (some 22) rfl rfl Try.func22 (by kernel_rfl) rfl #[.int .i64 27, .int .u32 a0, .int .u32 a1] rfl (by (try simp only [List.map_toArray, List.map_cons, List.map_nil]); first | done | rfl | (simp only [List.length_drop, List.length_take]; rfl)) ?_; (with_reducible refine (whetstonelaw01_does.calls k 27 a0 a1 t256 _ A7.out).mono ?_); rintro e w' ⟨rfl, ⟨nd, rfl⟩⟩; refine ⟨_, rfl, ?_⟩) | (go_at_call 22; (with_reducible refine (whetstonelaw01_does.calls k 28 t253 t252 t257 _ A9.out).mono ?_); rintro e w' ⟨rfl, ⟨nd, rfl⟩⟩) | (go_at_call 22; (with_reducible refine (whetstonelaw01_does.calls k 32 t254 a1 t258 _ A11.out).mono ?_); rintro e w' ⟨rfl, ⟨nd, rfl⟩⟩) | (go_at_call 22; (with_reducible refine (whetstonelaw01_does.calls k 36 t252 t254 t259 _ A13.out).mono ?_); rintro e w' ⟨rfl, ⟨nd, rfl⟩⟩))
          go_ret
          exact ⟨by first | rfl | (simp; done) | (simp [*]; done), by repeat (first | exact Drawn0.refl _ | apply Drawn0.step)⟩
      · rw [if_neg c12] at H
        have c12b0 : (t258 == a0) = false := beq_eq_false_iff_ne.mpr c12
        have c12b1 : (t258 != a0) = true := bne_iff_ne.mpr c12
        obtain rfl := Option.some.inj H
        go_enter Try.func11, Try.ntmps11
        go_wp2_with (first | ((with_reducible refine gate_callee (f := 22) rfl ?_); refine goesL_ (some 10) rfl rfl Try.func22 (by kernel_rfl) rfl #[.int .i64 36, .int .u32 a0, .int .u32 a1] rfl (by (try simp only [List.map_toArray, List.map_cons, List.map_nil]); first | done | rfl | (simp only [List.length_drop, List.length_take]; rfl)) ?_; (with_reducible refine (whetstonelaw01_does.calls k 36 a0 a1 t252 _ A3.out).mono ?_); rintro e w' ⟨rfl, ⟨nd, rfl⟩⟩; refine ⟨_, rfl, ?_⟩) | ((with_reducible refine gate_callee (f := 22) rfl ?_); refine goesL_ (some 13) rfl rfl Try.func22 (by kernel_rfl) rfl #[.int .i64 35, .int .u32 a0, .int .u32 a1] rfl (by (try simp only [List.map_toArray, List.map_cons, List.map_nil]); first | done | rfl | (simp only [List.length_drop, List.length_take]; rfl)) ?_; (with_reducible refine (whetstonelaw01_does.calls k 35 a0 a1 t253 _ A4.out).mono ?_); rintro e w' ⟨rfl, ⟨nd, rfl⟩⟩; refine ⟨_, rfl, ?_⟩) | ((with_reducible refine gate_callee (f := 22) rfl ?_); refine goesL_ (some 16) rfl rfl Try.func22 (by kernel_rfl) rfl #[.int .i64 32, .int .u32 a0, .int .u32 a1] rfl (by (try simp only [List.map_toArray, List.map_cons, List.map_nil]); first | done | rfl | (simp only [List.length_drop, List.length_take]; rfl)) ?_; (with_reducible refine (whetstonelaw01_does.calls k 32 a0 a1 t254 _ A5.out).mono ?_); rintro e w' ⟨rfl, ⟨nd, rfl⟩⟩; refine ⟨_, rfl, ?_⟩) | ((with_reducible refine gate_callee (f := 22) rfl ?_); refine goesL_ (some 19) rfl rfl Try.func22 (by kernel_rfl) rfl #[.int .i64 27, .int .u32 t252, .int .u32 t253] rfl (by (try simp only [List.map_toArray, List.map_cons, List.map_nil]); first | done | rfl | (simp only [List.length_drop, List.length_take]; rfl)) ?_; (with_reducible refine (whetstonelaw01_does.calls k 27 t252 t253 t255 _ A6.out).mono ?_); rintro e w' ⟨rfl, ⟨nd, rfl⟩⟩; refine ⟨_, rfl, ?_⟩) | ((with_reducible refine gate_callee (f := 22) rfl ?_); refine goesL_ (some 22) rfl rfl Try.func22 (by kernel_rfl) rfl #[.int .i64 27, .int .u32 a0, .int .u32 a1] rfl (by (try simp only [List.map_toArray, List.map_cons, List.map_nil]); first | done | rfl | (simp only [List.length_drop, List.length_take]; rfl)) ?_; (with_reducible refine (whetstonelaw01_does.calls k 27 a0 a1 t256 _ A7.out).mono ?_); rintro e w' ⟨rfl, ⟨nd, rfl⟩⟩; refine ⟨_, rfl, ?_⟩) | (go_at_call 22; (with_reducible refine (whetstonelaw01_does.calls k 28 t253 t252 t257 _ A9.out).mono ?_); rintro e w' ⟨rfl, ⟨nd, rfl⟩⟩) | (go_at_call 22; (with_reducible refine (whetstonelaw01_does.calls k 32 t254 a1 t258 _ A11.out).mono ?_); rintro e w' ⟨rfl, ⟨nd, rfl⟩⟩))
        go_ret
        exact ⟨by first | rfl | (simp; done) | (simp [*]; done), by repeat (first | exact Drawn0.refl _ | apply Drawn0.step)⟩
    · rw [if_neg c10] at H
      have c10b0 : (t257 == t254) = false := beq_eq_false_iff_ne.mpr c10
      have c10b1 : (t257 != t254) = true := bne_iff_ne.mpr c10
      obtain rfl := Option.some.inj H
      go_enter Try.func11, Try.ntmps11
      go_wp2_with (first | ((with_reducible refine gate_callee (f := 22) rfl ?_); refine goesL_ (some 10) rfl rfl Try.func22 (by kernel_rfl) rfl #[.int .i64 36, .int .u32 a0, .int .u32 a1] rfl (by (try simp only [List.map_toArray, List.map_cons, List.map_nil]); first | done | rfl | (simp only [List.length_drop, List.length_take]; rfl)) ?_; (with_reducible refine (whetstonelaw01_does.calls k 36 a0 a1 t252 _ A3.out).mono ?_); rintro e w' ⟨rfl, ⟨nd, rfl⟩⟩; refine ⟨_, rfl, ?_⟩) | ((with_reducible refine gate_callee (f := 22) rfl ?_); refine goesL_ (some 13) rfl rfl Try.func22 (by kernel_rfl) rfl #[.int .i64 35, .int .u32 a0, .int .u32 a1] rfl (by (try simp only [List.map_toArray, List.map_cons, List.map_nil]); first | done | rfl | (simp only [List.length_drop, List.length_take]; rfl)) ?_; (with_reducible refine (whetstonelaw01_does.calls k 35 a0 a1 t253 _ A4.out).mono ?_); rintro e w' ⟨rfl, ⟨nd, rfl⟩⟩; refine ⟨_, rfl, ?_⟩) | ((with_reducible refine gate_callee (f := 22) rfl ?_); refine goesL_ (some 16) rfl rfl Try.func22 (by kernel_rfl) rfl #[.int .i64 32, .int .u32 a0, .int .u32 a1] rfl (by (try simp only [List.map_toArray, List.map_cons, List.map_nil]); first | done | rfl | (simp only [List.length_drop, List.length_take]; rfl)) ?_; (with_reducible refine (whetstonelaw01_does.calls k 32 a0 a1 t254 _ A5.out).mono ?_); rintro e w' ⟨rfl, ⟨nd, rfl⟩⟩; refine ⟨_, rfl, ?_⟩) | ((with_reducible refine gate_callee (f := 22) rfl ?_); refine goesL_ (some 19) rfl rfl Try.func22 (by kernel_rfl) rfl #[.int .i64 27, .int .u32 t252, .int .u32 t253] rfl (by (try simp only [List.map_toArray, List.map_cons, List.map_nil]); first | done | rfl | (simp only [List.length_drop, List.length_take]; rfl)) ?_; (with_reducible refine (whetstonelaw01_does.calls k 27 t252 t253 t255 _ A6.out).mono ?_); rintro e w' ⟨rfl, ⟨nd, rfl⟩⟩; refine ⟨_, rfl, ?_⟩) | ((with_reducible refine gate_callee (f := 22) rfl ?_); refine goesL_ (some 22) rfl rfl Try.func22 (by kernel_rfl) rfl #[.int .i64 27, .int .u32 a0, .int .u32 a1] rfl (by (try simp only [List.map_toArray, List.map_cons, List.map_nil]); first | done | rfl | (simp only [List.length_drop, List.length_take]; rfl)) ?_; (with_reducible refine (whetstonelaw01_does.calls k 27 a0 a1 t256 _ A7.out).mono ?_); rintro e w' ⟨rfl, ⟨nd, rfl⟩⟩; refine ⟨_, rfl, ?_⟩) | (go_at_call 22; (with_reducible refine (whetstonelaw01_does.calls k 28 t253 t252 t257 _ A9.out).mono ?_); rintro e w' ⟨rfl, ⟨nd, rfl⟩⟩))
      go_ret
      exact ⟨by first | rfl | (simp; done) | (simp [*]; done), by repeat (first | exact Drawn0.refl _ | apply Drawn0.step)⟩
  · rw [if_neg c8] at H
    have c8b0 : (t255 == t256) = false := beq_eq_false_iff_ne.mpr c8
    have c8b1 : (t255 != t256) = true := bne_iff_ne.mpr c8
    obtain rfl := Option.some.inj H
    go_enter Try.func11, Try.ntmps11
    go_wp2_with (first | ((with_reducible refine gate_callee (f := 22) rfl ?_); refine goesL_ (some 10) rfl rfl Try.func22 (by kernel_rfl) rfl #[.int .i64 36, .int .u32 a0, .int .u32 a1] rfl (by (try simp only [List.map_toArray, List.map_cons, List.map_nil]); first | done | rfl | (simp only [List.length_drop, List.length_take]; rfl)) ?_; (with_reducible refine (whetstonelaw01_does.calls k 36 a0 a1 t252 _ A3.out).mono ?_); rintro e w' ⟨rfl, ⟨nd, rfl⟩⟩; refine ⟨_, rfl, ?_⟩) | ((with_reducible refine gate_callee (f := 22) rfl ?_); refine goesL_ (some 13) rfl rfl Try.func22 (by kernel_rfl) rfl #[.int .i64 35, .int .u32 a0, .int .u32 a1] rfl (by (try simp only [List.map_toArray, List.map_cons, List.map_nil]); first | done | rfl | (simp only [List.length_drop, List.length_take]; rfl)) ?_; (with_reducible refine (whetstonelaw01_does.calls k 35 a0 a1 t253 _ A4.out).mono ?_); rintro e w' ⟨rfl, ⟨nd, rfl⟩⟩; refine ⟨_, rfl, ?_⟩) | ((with_reducible refine gate_callee (f := 22) rfl ?_); refine goesL_ (some 16) rfl rfl Try.func22 (by kernel_rfl) rfl #[.int .i64 32, .int .u32 a0, .int .u32 a1] rfl (by (try simp only [List.map_toArray, List.map_cons, List.map_nil]); first | done | rfl | (simp only [List.length_drop, List.length_take]; rfl)) ?_; (with_reducible refine (whetstonelaw01_does.calls k 32 a0 a1 t254 _ A5.out).mono ?_); rintro e w' ⟨rfl, ⟨nd, rfl⟩⟩; refine ⟨_, rfl, ?_⟩) | ((with_reducible refine gate_callee (f := 22) rfl ?_); refine goesL_ (some 19) rfl rfl Try.func22 (by kernel_rfl) rfl #[.int .i64 27, .int .u32 t252, .int .u32 t253] rfl (by (try simp only [List.map_toArray, List.map_cons, List.map_nil]); first | done | rfl | (simp only [List.length_drop, List.length_take]; rfl)) ?_; (with_reducible refine (whetstonelaw01_does.calls k 27 t252 t253 t255 _ A6.out).mono ?_); rintro e w' ⟨rfl, ⟨nd, rfl⟩⟩; refine ⟨_, rfl, ?_⟩) | ((with_reducible refine gate_callee (f := 22) rfl ?_); refine goesL_ (some 22) rfl rfl Try.func22 (by kernel_rfl) rfl #[.int .i64 27, .int .u32 a0, .int .u32 a1] rfl (by (try simp only [List.map_toArray, List.map_cons, List.map_nil]); first | done | rfl | (simp only [List.length_drop, List.length_take]; rfl)) ?_; (with_reducible refine (whetstonelaw01_does.calls k 27 a0 a1 t256 _ A7.out).mono ?_); rintro e w' ⟨rfl, ⟨nd, rfl⟩⟩; refine ⟨_, rfl, ?_⟩))
    go_ret
    exact ⟨by first | rfl | (simp; done) | (simp [*]; done), by repeat (first | exact Drawn0.refl _ | apply Drawn0.step)⟩

/-- THE ONE PURE STATEMENT of whetstonelaw01_WordBits: yours. -/
def whetstonelaw01_WordBits.Pure : Prop := ∀ (a0 : Int) (a1 : Int), (Lit.int .u32 a0).wf = true → (Lit.int .u32 a1).wf = true → ∃ k, whetstonelaw01_WordBits.f k a0 a1 = some true
theorem whetstonelaw01_WordBits.walk (P : whetstonelaw01_WordBits.Pure) (a0 : Int) (a1 : Int) (w : World) (w0 : (Lit.int .u32 a0).wf = true) (w1 : (Lit.int .u32 a1).wf = true) :
    Calls Try.prog 11 #[.int .u32 a0, .int .u32 a1] w fun e w' => e = .returned (.bool true) ∧ Below w.heap.size w w' := by
  obtain ⟨k, h⟩ := P a0 a1 w0 w1
  refine (whetstonelaw01_WordBits.calls k a0 a1 true w h).mono ?_
  rintro e w' ⟨rfl, hd⟩
  exact ⟨rfl, hd.below⟩

end Go.Proofs.Ytebgdkhfeegcfaa.Q
