-- Written by this session's own driver (wip/tools/ownprint.py) over the kit's print: walks of the translated Go, each function once.
import Derived.Test.YtebgdkhfeegcfaaQx0
import Derived.Test.YtebgdkhfeegcfaaQx1
import Derived.Test.YtebgdkhfeegcfaaQx2
import Derived.Test.YtebgdkhfeegcfaaQx4
namespace Go.Proofs.Ytebgdkhfeegcfaa.Q
open Go.RowKit Go.Proofs.YtebgdkhfeegcfaaW.PrintWords Go.Proofs.YtebgdkhfeegcfaaW.PrintLast Go.Proofs.YtebgdkhfeegcfaaW.PrintMore
attribute [local go_sem] max2_int min2_int max_two min_two max_three min_three max_four min_four   -- for this text's walks alone
attribute [local go_sem] imax_u32 imax_u8 isg_u32 isg_u8
set_option linter.unusedVariables false
set_option linter.unusedSimpArgs false

/-! ### whetstonelaw01_does: function 22 -/
def whetstonelaw01_does.f (k : Nat) (a0 : Int) (a1 : Int) (a2 : Int) : Option (Int) := (word_Do.f k a0 a1 a2).bind fun bt114 => (if bt114.2 = 0 then (some bt114.1) else (some 1515870810))
theorem whetstonelaw01_does.mono : ∀ a0 a1 a2 k, LeO (whetstonelaw01_does.f k a0 a1 a2) (whetstonelaw01_does.f (k + 1) a0 a1 a2) := by
  intro a0 a1 a2 k
  unfold whetstonelaw01_does.f
  repeat' first
      | (with_reducible exact word_Do.mono _ _ _ _)
      | (with_reducible exact LeO.refl _)
      | (with_reducible exact LeO.none _)
      | (with_reducible refine LeO.ite ?_ ?_)
      | (with_reducible refine LeO.bind ?_ (fun _ => ?_))
      | exact word_Do.mono _ _ _ _
      | exact LeO.none _
      | refine LeO.ite ?_ ?_
      | refine LeO.bind ?_ (fun _ => ?_)
set_option maxHeartbeats 8000000 in
set_option maxRecDepth 100000 in
theorem whetstonelaw01_does.calls (k : Nat) (a0 : Int) (a1 : Int) (a2 : Int) (r : Int) (w : World) (h : whetstonelaw01_does.f k a0 a1 a2 = some r) :
    Calls Try.prog 22 #[.int .i64 a0, .int .u32 a1, .int .u32 a2] w fun e w' => e = .returned (.int .u32 r) ∧ Drawn0 w w' := by
  have H : ((word_Do.f k a0 a1 a2).bind fun bt114 => (if bt114.2 = 0 then (some bt114.1) else (some 1515870810))) = some r := h
  clear h
  replace H := Option.bind_eq_some_iff.mp H
  obtain ⟨⟨t114, t115⟩, A40, H⟩ := H
  replace H : (if t115 = 0 then (some t114) else (some 1515870810)) = some r := H
  have A4 := Aside0.mk A40
  clear A40
  by_cases c5 : t115 = 0
  · rw [if_pos c5] at H
    have c5b0 : (t115 == 0) = true := beq_iff_eq.mpr c5
    have c5b1 : (t115 != 0) = false := bne_eq_false_iff_eq.mpr c5
    clear c5
    obtain rfl := Option.some.inj H
    go_enter Try.func22, Try.ntmps22
    go_wp2_with (first | ((with_reducible refine gate_callee (f := 20) rfl ?_); refine goesL_ (some 13) rfl rfl Try.func20 (by kernel_rfl) rfl #[.int .i64 a0, .int .u32 a1, .int .u32 a2] rfl (by (try simp only [List.map_toArray, List.map_cons, List.map_nil]); first | done | rfl | (simp only [List.length_drop, List.length_take]; rfl)) ?_; (with_reducible refine (word_Do.calls k a0 a1 a2 t114 t115 _ A4.out).mono ?_); rintro e w' ⟨rfl, ⟨nd, rfl⟩⟩; refine ⟨_, rfl, ?_⟩))
    go_ret
    exact ⟨by first | rfl | (simp; done) | (simp [*]; done), by repeat (first | exact Drawn0.refl _ | apply Drawn0.step)⟩
  · rw [if_neg c5] at H
    have c5b0 : (t115 == 0) = false := beq_eq_false_iff_ne.mpr c5
    have c5b1 : (t115 != 0) = true := bne_iff_ne.mpr c5
    obtain rfl := Option.some.inj H
    go_enter Try.func22, Try.ntmps22
    go_wp2_with (first | ((with_reducible refine gate_callee (f := 20) rfl ?_); refine goesL_ (some 13) rfl rfl Try.func20 (by kernel_rfl) rfl #[.int .i64 a0, .int .u32 a1, .int .u32 a2] rfl (by (try simp only [List.map_toArray, List.map_cons, List.map_nil]); first | done | rfl | (simp only [List.length_drop, List.length_take]; rfl)) ?_; (with_reducible refine (word_Do.calls k a0 a1 a2 t114 t115 _ A4.out).mono ?_); rintro e w' ⟨rfl, ⟨nd, rfl⟩⟩; refine ⟨_, rfl, ?_⟩))
    go_ret
    exact ⟨by first | rfl | (simp; done) | (simp [*]; done), by repeat (first | exact Drawn0.refl _ | apply Drawn0.step)⟩

/-! ### whetstonelaw01_fixed: function 13 -/
def whetstonelaw01_fixed.f (k : Nat)  : Option (Bool) := (word_Do.f k 18 1 2).bind fun bt116 => ((word_Sign.f k 4095 12).bind fun t118 => (if t118 = 4294967295 then ((word_Field.f k 305419896 8 8).bind fun t119 => (if t119 = 86 then ((word_Put.f k 0 4 4 171).bind fun t120 => (if t120 = 176 then ((whetstonelaw01_does.f k 41 7 0).bind fun t121 => (if t121 = 4294967295 then ((whetstonelaw01_does.f k 43 4294967289 2).bind fun t122 => (if t122 = 4294967295 then ((whetstonelaw01_does.f k 38 2147483648 2147483648).bind fun t123 => (if t123 = 1073741824 then ((whetstonelaw01_does.f k 27 4294967295 2).bind fun t124 => (if t124 = 1 then ((whetstonelaw01_does.f k 34 2147483648 33).bind fun t125 => (if t125 = 3221225472 then (some (bt116.2 == 1)) else (some false))) else (some false))) else (some false))) else (some false))) else (some false))) else (some false))) else (some false))) else (some false)))
theorem whetstonelaw01_fixed.mono : ∀ k, LeO (whetstonelaw01_fixed.f k ) (whetstonelaw01_fixed.f (k + 1) ) := by
  intro  k
  unfold whetstonelaw01_fixed.f
  repeat' first
      | (with_reducible exact whetstonelaw01_does.mono _ _ _ _)
      | (with_reducible exact word_Do.mono _ _ _ _)
      | (with_reducible exact word_Field.mono _ _ _ _)
      | (with_reducible exact word_Put.mono _ _ _ _ _)
      | (with_reducible exact word_Sign.mono _ _ _)
      | (with_reducible exact LeO.refl _)
      | (with_reducible exact LeO.none _)
      | (with_reducible refine LeO.ite ?_ ?_)
      | (with_reducible refine LeO.bind ?_ (fun _ => ?_))
      | exact whetstonelaw01_does.mono _ _ _ _
      | exact word_Do.mono _ _ _ _
      | exact word_Field.mono _ _ _ _
      | exact word_Put.mono _ _ _ _ _
      | exact word_Sign.mono _ _ _
      | exact LeO.none _
      | refine LeO.ite ?_ ?_
      | refine LeO.bind ?_ (fun _ => ?_)
set_option maxHeartbeats 8000000 in
set_option maxRecDepth 100000 in
theorem whetstonelaw01_fixed.calls (k : Nat)  (r : Bool) (w : World) (h : whetstonelaw01_fixed.f k  = some r) :
    Calls Try.prog 13 #[] w fun e w' => e = .returned (.bool r) ∧ Drawn0 w w' := by
  have H : ((word_Do.f k 18 1 2).bind fun bt116 => ((word_Sign.f k 4095 12).bind fun t118 => (if t118 = 4294967295 then ((word_Field.f k 305419896 8 8).bind fun t119 => (if t119 = 86 then ((word_Put.f k 0 4 4 171).bind fun t120 => (if t120 = 176 then ((whetstonelaw01_does.f k 41 7 0).bind fun t121 => (if t121 = 4294967295 then ((whetstonelaw01_does.f k 43 4294967289 2).bind fun t122 => (if t122 = 4294967295 then ((whetstonelaw01_does.f k 38 2147483648 2147483648).bind fun t123 => (if t123 = 1073741824 then ((whetstonelaw01_does.f k 27 4294967295 2).bind fun t124 => (if t124 = 1 then ((whetstonelaw01_does.f k 34 2147483648 33).bind fun t125 => (if t125 = 3221225472 then (some (bt116.2 == 1)) else (some false))) else (some false))) else (some false))) else (some false))) else (some false))) else (some false))) else (some false))) else (some false)))) = some r := h
  clear h
  replace H := Option.bind_eq_some_iff.mp H
  obtain ⟨⟨t116, t117⟩, A10, H⟩ := H
  replace H : ((word_Sign.f k 4095 12).bind fun t118 => (if t118 = 4294967295 then ((word_Field.f k 305419896 8 8).bind fun t119 => (if t119 = 86 then ((word_Put.f k 0 4 4 171).bind fun t120 => (if t120 = 176 then ((whetstonelaw01_does.f k 41 7 0).bind fun t121 => (if t121 = 4294967295 then ((whetstonelaw01_does.f k 43 4294967289 2).bind fun t122 => (if t122 = 4294967295 then ((whetstonelaw01_does.f k 38 2147483648 2147483648).bind fun t123 => (if t123 = 1073741824 then ((whetstonelaw01_does.f k 27 4294967295 2).bind fun t124 => (if t124 = 1 then ((whetstonelaw01_does.f k 34 2147483648 33).bind fun t125 => (if t125 = 3221225472 then (some (t117 == 1)) else (some false))) else (some false))) else (some false))) else (some false))) else (some false))) else (some false))) else (some false))) else (some false))) = some r := H
  have A1 := Aside0.mk A10
  clear A10
  replace H := Option.bind_eq_some_iff.mp H
  obtain ⟨t118, A20, H⟩ := H
  replace H : (if t118 = 4294967295 then ((word_Field.f k 305419896 8 8).bind fun t119 => (if t119 = 86 then ((word_Put.f k 0 4 4 171).bind fun t120 => (if t120 = 176 then ((whetstonelaw01_does.f k 41 7 0).bind fun t121 => (if t121 = 4294967295 then ((whetstonelaw01_does.f k 43 4294967289 2).bind fun t122 => (if t122 = 4294967295 then ((whetstonelaw01_does.f k 38 2147483648 2147483648).bind fun t123 => (if t123 = 1073741824 then ((whetstonelaw01_does.f k 27 4294967295 2).bind fun t124 => (if t124 = 1 then ((whetstonelaw01_does.f k 34 2147483648 33).bind fun t125 => (if t125 = 3221225472 then (some (t117 == 1)) else (some false))) else (some false))) else (some false))) else (some false))) else (some false))) else (some false))) else (some false))) else (some false)) = some r := H
  have A2 := Aside0.mk A20
  clear A20
  by_cases c3 : t118 = 4294967295
  · rw [if_pos c3] at H
    have c3b0 : (t118 == 4294967295) = true := beq_iff_eq.mpr c3
    have c3b1 : (t118 != 4294967295) = false := bne_eq_false_iff_eq.mpr c3
    clear c3
    replace H := Option.bind_eq_some_iff.mp H
    obtain ⟨t119, A40, H⟩ := H
    replace H : (if t119 = 86 then ((word_Put.f k 0 4 4 171).bind fun t120 => (if t120 = 176 then ((whetstonelaw01_does.f k 41 7 0).bind fun t121 => (if t121 = 4294967295 then ((whetstonelaw01_does.f k 43 4294967289 2).bind fun t122 => (if t122 = 4294967295 then ((whetstonelaw01_does.f k 38 2147483648 2147483648).bind fun t123 => (if t123 = 1073741824 then ((whetstonelaw01_does.f k 27 4294967295 2).bind fun t124 => (if t124 = 1 then ((whetstonelaw01_does.f k 34 2147483648 33).bind fun t125 => (if t125 = 3221225472 then (some (t117 == 1)) else (some false))) else (some false))) else (some false))) else (some false))) else (some false))) else (some false))) else (some false)) = some r := H
    have A4 := Aside0.mk A40
    clear A40
    by_cases c5 : t119 = 86
    · rw [if_pos c5] at H
      have c5b0 : (t119 == 86) = true := beq_iff_eq.mpr c5
      have c5b1 : (t119 != 86) = false := bne_eq_false_iff_eq.mpr c5
      clear c5
      replace H := Option.bind_eq_some_iff.mp H
      obtain ⟨t120, A60, H⟩ := H
      replace H : (if t120 = 176 then ((whetstonelaw01_does.f k 41 7 0).bind fun t121 => (if t121 = 4294967295 then ((whetstonelaw01_does.f k 43 4294967289 2).bind fun t122 => (if t122 = 4294967295 then ((whetstonelaw01_does.f k 38 2147483648 2147483648).bind fun t123 => (if t123 = 1073741824 then ((whetstonelaw01_does.f k 27 4294967295 2).bind fun t124 => (if t124 = 1 then ((whetstonelaw01_does.f k 34 2147483648 33).bind fun t125 => (if t125 = 3221225472 then (some (t117 == 1)) else (some false))) else (some false))) else (some false))) else (some false))) else (some false))) else (some false)) = some r := H
      have A6 := Aside0.mk A60
      clear A60
      by_cases c7 : t120 = 176
      · rw [if_pos c7] at H
        have c7b0 : (t120 == 176) = true := beq_iff_eq.mpr c7
        have c7b1 : (t120 != 176) = false := bne_eq_false_iff_eq.mpr c7
        clear c7
        replace H := Option.bind_eq_some_iff.mp H
        obtain ⟨t121, A80, H⟩ := H
        replace H : (if t121 = 4294967295 then ((whetstonelaw01_does.f k 43 4294967289 2).bind fun t122 => (if t122 = 4294967295 then ((whetstonelaw01_does.f k 38 2147483648 2147483648).bind fun t123 => (if t123 = 1073741824 then ((whetstonelaw01_does.f k 27 4294967295 2).bind fun t124 => (if t124 = 1 then ((whetstonelaw01_does.f k 34 2147483648 33).bind fun t125 => (if t125 = 3221225472 then (some (t117 == 1)) else (some false))) else (some false))) else (some false))) else (some false))) else (some false)) = some r := H
        have A8 := Aside0.mk A80
        clear A80
        by_cases c9 : t121 = 4294967295
        · rw [if_pos c9] at H
          have c9b0 : (t121 == 4294967295) = true := beq_iff_eq.mpr c9
          have c9b1 : (t121 != 4294967295) = false := bne_eq_false_iff_eq.mpr c9
          clear c9
          replace H := Option.bind_eq_some_iff.mp H
          obtain ⟨t122, A100, H⟩ := H
          replace H : (if t122 = 4294967295 then ((whetstonelaw01_does.f k 38 2147483648 2147483648).bind fun t123 => (if t123 = 1073741824 then ((whetstonelaw01_does.f k 27 4294967295 2).bind fun t124 => (if t124 = 1 then ((whetstonelaw01_does.f k 34 2147483648 33).bind fun t125 => (if t125 = 3221225472 then (some (t117 == 1)) else (some false))) else (some false))) else (some false))) else (some false)) = some r := H
          have A10 := Aside0.mk A100
          clear A100
          by_cases c11 : t122 = 4294967295
          · rw [if_pos c11] at H
            have c11b0 : (t122 == 4294967295) = true := beq_iff_eq.mpr c11
            have c11b1 : (t122 != 4294967295) = false := bne_eq_false_iff_eq.mpr c11
            clear c11
            replace H := Option.bind_eq_some_iff.mp H
            obtain ⟨t123, A120, H⟩ := H
            replace H : (if t123 = 1073741824 then ((whetstonelaw01_does.f k 27 4294967295 2).bind fun t124 => (if t124 = 1 then ((whetstonelaw01_does.f k 34 2147483648 33).bind fun t125 => (if t125 = 3221225472 then (some (t117 == 1)) else (some false))) else (some false))) else (some false)) = some r := H
            have A12 := Aside0.mk A120
            clear A120
            by_cases c13 : t123 = 1073741824
            · rw [if_pos c13] at H
              have c13b0 : (t123 == 1073741824) = true := beq_iff_eq.mpr c13
              have c13b1 : (t123 != 1073741824) = false := bne_eq_false_iff_eq.mpr c13
              clear c13
              replace H := Option.bind_eq_some_iff.mp H
              obtain ⟨t124, A140, H⟩ := H
              replace H : (if t124 = 1 then ((whetstonelaw01_does.f k 34 2147483648 33).bind fun t125 => (if t125 = 3221225472 then (some (t117 == 1)) else (some false))) else (some false)) = some r := H
              have A14 := Aside0.mk A140
              clear A140
              by_cases c15 : t124 = 1
              · rw [if_pos c15] at H
                have c15b0 : (t124 == 1) = true := beq_iff_eq.mpr c15
                have c15b1 : (t124 != 1) = false := bne_eq_false_iff_eq.mpr c15
                clear c15
                replace H := Option.bind_eq_some_iff.mp H
                obtain ⟨t125, A160, H⟩ := H
                replace H : (if t125 = 3221225472 then (some (t117 == 1)) else (some false)) = some r := H
                have A16 := Aside0.mk A160
                clear A160
                by_cases c17 : t125 = 3221225472
                · rw [if_pos c17] at H
                  have c17b0 : (t125 == 3221225472) = true := beq_iff_eq.mpr c17
                  have c17b1 : (t125 != 3221225472) = false := bne_eq_false_iff_eq.mpr c17
                  clear c17
                  obtain rfl := Option.some.inj H
                  go_enter Try.func13, Try.ntmps13
                  go_wp2_with (first | ((with_reducible refine gate_callee (f := 20) rfl ?_); refine goesL_ (some 4) rfl rfl Try.func20 (by kernel_rfl) rfl #[.int .i64 18, .int .u32 1, .int .u32 2] rfl (by (try simp only [List.map_toArray, List.map_cons, List.map_nil]); first | done | rfl | (simp only [List.length_drop, List.length_take]; rfl)) ?_; (with_reducible refine (word_Do.calls k 18 1 2 t116 t117 _ A1.out).mono ?_); rintro e w' ⟨rfl, ⟨nd, rfl⟩⟩; refine ⟨_, rfl, ?_⟩) | ((with_reducible refine gate_callee (f := 16) rfl ?_); refine goesL_ (some 7) rfl rfl Try.func16 (by kernel_rfl) rfl #[.int .u32 4095, .int .i64 12] rfl (by (try simp only [List.map_toArray, List.map_cons, List.map_nil]); first | done | rfl | (simp only [List.length_drop, List.length_take]; rfl)) ?_; (with_reducible refine (word_Sign.calls k 4095 12 t118 _ A2.out).mono ?_); rintro e w' ⟨rfl, ⟨nd, rfl⟩⟩; refine ⟨_, rfl, ?_⟩) | (go_at_call 14; (with_reducible refine (word_Field.calls k 305419896 8 8 t119 _ A4.out).mono ?_); rintro e w' ⟨rfl, ⟨nd, rfl⟩⟩) | (go_at_call 18; (with_reducible refine (word_Put.calls k 0 4 4 171 t120 _ A6.out).mono ?_); rintro e w' ⟨rfl, ⟨nd, rfl⟩⟩) | (go_at_call 22; (with_reducible refine (whetstonelaw01_does.calls k 41 7 0 t121 _ A8.out).mono ?_); rintro e w' ⟨rfl, ⟨nd, rfl⟩⟩) | (go_at_call 22; (with_reducible refine (whetstonelaw01_does.calls k 43 4294967289 2 t122 _ A10.out).mono ?_); rintro e w' ⟨rfl, ⟨nd, rfl⟩⟩) | (go_at_call 22; (with_reducible refine (whetstonelaw01_does.calls k 38 2147483648 2147483648 t123 _ A12.out).mono ?_); rintro e w' ⟨rfl, ⟨nd, rfl⟩⟩) | (go_at_call 22; (with_reducible refine (whetstonelaw01_does.calls k 27 4294967295 2 t124 _ A14.out).mono ?_); rintro e w' ⟨rfl, ⟨nd, rfl⟩⟩) | (go_at_call 22; (with_reducible refine (whetstonelaw01_does.calls k 34 2147483648 33 t125 _ A16.out).mono ?_); rintro e w' ⟨rfl, ⟨nd, rfl⟩⟩))
                  go_ret
                  exact ⟨by first | rfl | (simp; done) | (simp [*]; done), by repeat (first | exact Drawn0.refl _ | apply Drawn0.step)⟩
                · rw [if_neg c17] at H
                  have c17b0 : (t125 == 3221225472) = false := beq_eq_false_iff_ne.mpr c17
                  have c17b1 : (t125 != 3221225472) = true := bne_iff_ne.mpr c17
                  obtain rfl := Option.some.inj H
                  go_enter Try.func13, Try.ntmps13
                  go_wp2_with (first | ((with_reducible refine gate_callee (f := 20) rfl ?_); refine goesL_ (some 4) rfl rfl Try.func20 (by kernel_rfl) rfl #[.int .i64 18, .int .u32 1, .int .u32 2] rfl (by (try simp only [List.map_toArray, List.map_cons, List.map_nil]); first | done | rfl | (simp only [List.length_drop, List.length_take]; rfl)) ?_; (with_reducible refine (word_Do.calls k 18 1 2 t116 t117 _ A1.out).mono ?_); rintro e w' ⟨rfl, ⟨nd, rfl⟩⟩; refine ⟨_, rfl, ?_⟩) | ((with_reducible refine gate_callee (f := 16) rfl ?_); refine goesL_ (some 7) rfl rfl Try.func16 (by kernel_rfl) rfl #[.int .u32 4095, .int .i64 12] rfl (by (try simp only [List.map_toArray, List.map_cons, List.map_nil]); first | done | rfl | (simp only [List.length_drop, List.length_take]; rfl)) ?_; (with_reducible refine (word_Sign.calls k 4095 12 t118 _ A2.out).mono ?_); rintro e w' ⟨rfl, ⟨nd, rfl⟩⟩; refine ⟨_, rfl, ?_⟩) | (go_at_call 14; (with_reducible refine (word_Field.calls k 305419896 8 8 t119 _ A4.out).mono ?_); rintro e w' ⟨rfl, ⟨nd, rfl⟩⟩) | (go_at_call 18; (with_reducible refine (word_Put.calls k 0 4 4 171 t120 _ A6.out).mono ?_); rintro e w' ⟨rfl, ⟨nd, rfl⟩⟩) | (go_at_call 22; (with_reducible refine (whetstonelaw01_does.calls k 41 7 0 t121 _ A8.out).mono ?_); rintro e w' ⟨rfl, ⟨nd, rfl⟩⟩) | (go_at_call 22; (with_reducible refine (whetstonelaw01_does.calls k 43 4294967289 2 t122 _ A10.out).mono ?_); rintro e w' ⟨rfl, ⟨nd, rfl⟩⟩) | (go_at_call 22; (with_reducible refine (whetstonelaw01_does.calls k 38 2147483648 2147483648 t123 _ A12.out).mono ?_); rintro e w' ⟨rfl, ⟨nd, rfl⟩⟩) | (go_at_call 22; (with_reducible refine (whetstonelaw01_does.calls k 27 4294967295 2 t124 _ A14.out).mono ?_); rintro e w' ⟨rfl, ⟨nd, rfl⟩⟩) | (go_at_call 22; (with_reducible refine (whetstonelaw01_does.calls k 34 2147483648 33 t125 _ A16.out).mono ?_); rintro e w' ⟨rfl, ⟨nd, rfl⟩⟩))
                  go_ret
                  exact ⟨by first | rfl | (simp; done) | (simp [*]; done), by repeat (first | exact Drawn0.refl _ | apply Drawn0.step)⟩
              · rw [if_neg c15] at H
                have c15b0 : (t124 == 1) = false := beq_eq_false_iff_ne.mpr c15
                have c15b1 : (t124 != 1) = true := bne_iff_ne.mpr c15
                obtain rfl := Option.some.inj H
                go_enter Try.func13, Try.ntmps13
                go_wp2_with (first | ((with_reducible refine gate_callee (f := 20) rfl ?_); refine goesL_ (some 4) rfl rfl Try.func20 (by kernel_rfl) rfl #[.int .i64 18, .int .u32 1, .int .u32 2] rfl (by (try simp only [List.map_toArray, List.map_cons, List.map_nil]); first | done | rfl | (simp only [List.length_drop, List.length_take]; rfl)) ?_; (with_reducible refine (word_Do.calls k 18 1 2 t116 t117 _ A1.out).mono ?_); rintro e w' ⟨rfl, ⟨nd, rfl⟩⟩; refine ⟨_, rfl, ?_⟩) | ((with_reducible refine gate_callee (f := 16) rfl ?_); refine goesL_ (some 7) rfl rfl Try.func16 (by kernel_rfl) rfl #[.int .u32 4095, .int .i64 12] rfl (by (try simp only [List.map_toArray, List.map_cons, List.map_nil]); first | done | rfl | (simp only [List.length_drop, List.length_take]; rfl)) ?_; (with_reducible refine (word_Sign.calls k 4095 12 t118 _ A2.out).mono ?_); rintro e w' ⟨rfl, ⟨nd, rfl⟩⟩; refine ⟨_, rfl, ?_⟩) | (go_at_call 14; (with_reducible refine (word_Field.calls k 305419896 8 8 t119 _ A4.out).mono ?_); rintro e w' ⟨rfl, ⟨nd, rfl⟩⟩) | (go_at_call 18; (with_reducible refine (word_Put.calls k 0 4 4 171 t120 _ A6.out).mono ?_); rintro e w' ⟨rfl, ⟨nd, rfl⟩⟩) | (go_at_call 22; (with_reducible refine (whetstonelaw01_does.calls k 41 7 0 t121 _ A8.out).mono ?_); rintro e w' ⟨rfl, ⟨nd, rfl⟩⟩) | (go_at_call 22; (with_reducible refine (whetstonelaw01_does.calls k 43 4294967289 2 t122 _ A10.out).mono ?_); rintro e w' ⟨rfl, ⟨nd, rfl⟩⟩) | (go_at_call 22; (with_reducible refine (whetstonelaw01_does.calls k 38 2147483648 2147483648 t123 _ A12.out).mono ?_); rintro e w' ⟨rfl, ⟨nd, rfl⟩⟩) | (go_at_call 22; (with_reducible refine (whetstonelaw01_does.calls k 27 4294967295 2 t124 _ A14.out).mono ?_); rintro e w' ⟨rfl, ⟨nd, rfl⟩⟩))
                go_ret
                exact ⟨by first | rfl | (simp; done) | (simp [*]; done), by repeat (first | exact Drawn0.refl _ | apply Drawn0.step)⟩
            · rw [if_neg c13] at H
              have c13b0 : (t123 == 1073741824) = false := beq_eq_false_iff_ne.mpr c13
              have c13b1 : (t123 != 1073741824) = true := bne_iff_ne.mpr c13
              obtain rfl := Option.some.inj H
              go_enter Try.func13, Try.ntmps13
              go_wp2_with (first | ((with_reducible refine gate_callee (f := 20) rfl ?_); refine goesL_ (some 4) rfl rfl Try.func20 (by kernel_rfl) rfl #[.int .i64 18, .int .u32 1, .int .u32 2] rfl (by (try simp only [List.map_toArray, List.map_cons, List.map_nil]); first | done | rfl | (simp only [List.length_drop, List.length_take]; rfl)) ?_; (with_reducible refine (word_Do.calls k 18 1 2 t116 t117 _ A1.out).mono ?_); rintro e w' ⟨rfl, ⟨nd, rfl⟩⟩; refine ⟨_, rfl, ?_⟩) | ((with_reducible refine gate_callee (f := 16) rfl ?_); refine goesL_ (some 7) rfl rfl Try.func16 (by kernel_rfl) rfl #[.int .u32 4095, .int .i64 12] rfl (by (try simp only [List.map_toArray, List.map_cons, List.map_nil]); first | done | rfl | (simp only [List.length_drop, List.length_take]; rfl)) ?_; (with_reducible refine (word_Sign.calls k 4095 12 t118 _ A2.out).mono ?_); rintro e w' ⟨rfl, ⟨nd, rfl⟩⟩; refine ⟨_, rfl, ?_⟩) | (go_at_call 14; (with_reducible refine (word_Field.calls k 305419896 8 8 t119 _ A4.out).mono ?_); rintro e w' ⟨rfl, ⟨nd, rfl⟩⟩) | (go_at_call 18; (with_reducible refine (word_Put.calls k 0 4 4 171 t120 _ A6.out).mono ?_); rintro e w' ⟨rfl, ⟨nd, rfl⟩⟩) | (go_at_call 22; (with_reducible refine (whetstonelaw01_does.calls k 41 7 0 t121 _ A8.out).mono ?_); rintro e w' ⟨rfl, ⟨nd, rfl⟩⟩) | (go_at_call 22; (with_reducible refine (whetstonelaw01_does.calls k 43 4294967289 2 t122 _ A10.out).mono ?_); rintro e w' ⟨rfl, ⟨nd, rfl⟩⟩) | (go_at_call 22; (with_reducible refine (whetstonelaw01_does.calls k 38 2147483648 2147483648 t123 _ A12.out).mono ?_); rintro e w' ⟨rfl, ⟨nd, rfl⟩⟩))
              go_ret
              exact ⟨by first | rfl | (simp; done) | (simp [*]; done), by repeat (first | exact Drawn0.refl _ | apply Drawn0.step)⟩
          · rw [if_neg c11] at H
            have c11b0 : (t122 == 4294967295) = false := beq_eq_false_iff_ne.mpr c11
            have c11b1 : (t122 != 4294967295) = true := bne_iff_ne.mpr c11
            obtain rfl := Option.some.inj H
            go_enter Try.func13, Try.ntmps13
            go_wp2_with (first | ((with_reducible refine gate_callee (f := 20) rfl ?_); refine goesL_ (some 4) rfl rfl Try.func20 (by kernel_rfl) rfl #[.int .i64 18, .int .u32 1, .int .u32 2] rfl (by (try simp only [List.map_toArray, List.map_cons, List.map_nil]); first | done | rfl | (simp only [List.length_drop, List.length_take]; rfl)) ?_; (with_reducible refine (word_Do.calls k 18 1 2 t116 t117 _ A1.out).mono ?_); rintro e w' ⟨rfl, ⟨nd, rfl⟩⟩; refine ⟨_, rfl, ?_⟩) | ((with_reducible refine gate_callee (f := 16) rfl ?_); refine goesL_ (some 7) rfl rfl Try.func16 (by kernel_rfl) rfl #[.int .u32 4095, .int .i64 12] rfl (by (try simp only [List.map_toArray, List.map_cons, List.map_nil]); first | done | rfl | (simp only [List.length_drop, List.length_take]; rfl)) ?_; (with_reducible refine (word_Sign.calls k 4095 12 t118 _ A2.out).mono ?_); rintro e w' ⟨rfl, ⟨nd, rfl⟩⟩; refine ⟨_, rfl, ?_⟩) | (go_at_call 14; (with_reducible refine (word_Field.calls k 305419896 8 8 t119 _ A4.out).mono ?_); rintro e w' ⟨rfl, ⟨nd, rfl⟩⟩) | (go_at_call 18; (with_reducible refine (word_Put.calls k 0 4 4 171 t120 _ A6.out).mono ?_); rintro e w' ⟨rfl, ⟨nd, rfl⟩⟩) | (go_at_call 22; (with_reducible refine (whetstonelaw01_does.calls k 41 7 0 t121 _ A8.out).mono ?_); rintro e w' ⟨rfl, ⟨nd, rfl⟩⟩) | (go_at_call 22; (with_reducible refine (whetstonelaw01_does.calls k 43 4294967289 2 t122 _ A10.out).mono ?_); rintro e w' ⟨rfl, ⟨nd, rfl⟩⟩))
            go_ret
            exact ⟨by first | rfl | (simp; done) | (simp [*]; done), by repeat (first | exact Drawn0.refl _ | apply Drawn0.step)⟩
        · rw [if_neg c9] at H
          have c9b0 : (t121 == 4294967295) = false := beq_eq_false_iff_ne.mpr c9
          have c9b1 : (t121 != 4294967295) = true := bne_iff_ne.mpr c9
          obtain rfl := Option.some.inj H
          go_enter Try.func13, Try.ntmps13
          go_wp2_with (first | ((with_reducible refine gate_callee (f := 20) rfl ?_); refine goesL_ (some 4) rfl rfl Try.func20 (by kernel_rfl) rfl #[.int .i64 18, .int .u32 1, .int .u32 2] rfl (by (try simp only [List.map_toArray, List.map_cons, List.map_nil]); first | done | rfl | (simp only [List.length_drop, List.length_take]; rfl)) ?_; (with_reducible refine (word_Do.calls k 18 1 2 t116 t117 _ A1.out).mono ?_); rintro e w' ⟨rfl, ⟨nd, rfl⟩⟩; refine ⟨_, rfl, ?_⟩) | ((with_reducible refine gate_callee (f := 16) rfl ?_); refine goesL_ (some 7) rfl rfl Try.func16 (by kernel_rfl) rfl #[.int .u32 4095, .int .i64 12] rfl (by (try simp only [List.map_toArray, List.map_cons, List.map_nil]); first | done | rfl | (simp only [List.length_drop, List.length_take]; rfl)) ?_; (with_reducible refine (word_Sign.calls k 4095 12 t118 _ A2.out).mono ?_); rintro e w' ⟨rfl, ⟨nd, rfl⟩⟩; refine ⟨_, rfl, ?_⟩) | (go_at_call 14; (with_reducible refine (word_Field.calls k 305419896 8 8 t119 _ A4.out).mono ?_); rintro e w' ⟨rfl, ⟨nd, rfl⟩⟩) | (go_at_call 18; (with_reducible refine (word_Put.calls k 0 4 4 171 t120 _ A6.out).mono ?_); rintro e w' ⟨rfl, ⟨nd, rfl⟩⟩) | (go_at_call 22; (with_reducible refine (whetstonelaw01_does.calls k 41 7 0 t121 _ A8.out).mono ?_); rintro e w' ⟨rfl, ⟨nd, rfl⟩⟩))
          go_ret
          exact ⟨by first | rfl | (simp; done) | (simp [*]; done), by repeat (first | exact Drawn0.refl _ | apply Drawn0.step)⟩
      · rw [if_neg c7] at H
        have c7b0 : (t120 == 176) = false := beq_eq_false_iff_ne.mpr c7
        have c7b1 : (t120 != 176) = true := bne_iff_ne.mpr c7
        obtain rfl := Option.some.inj H
        go_enter Try.func13, Try.ntmps13
        go_wp2_with (first | ((with_reducible refine gate_callee (f := 20) rfl ?_); refine goesL_ (some 4) rfl rfl Try.func20 (by kernel_rfl) rfl #[.int .i64 18, .int .u32 1, .int .u32 2] rfl (by (try simp only [List.map_toArray, List.map_cons, List.map_nil]); first | done | rfl | (simp only [List.length_drop, List.length_take]; rfl)) ?_; (with_reducible refine (word_Do.calls k 18 1 2 t116 t117 _ A1.out).mono ?_); rintro e w' ⟨rfl, ⟨nd, rfl⟩⟩; refine ⟨_, rfl, ?_⟩) | ((with_reducible refine gate_callee (f := 16) rfl ?_); refine goesL_ (some 7) rfl rfl Try.func16 (by kernel_rfl) rfl #[.int .u32 4095, .int .i64 12] rfl (by (try simp only [List.map_toArray, List.map_cons, List.map_nil]); first | done | rfl | (simp only [List.length_drop, List.length_take]; rfl)) ?_; (with_reducible refine (word_Sign.calls k 4095 12 t118 _ A2.out).mono ?_); rintro e w' ⟨rfl, ⟨nd, rfl⟩⟩; refine ⟨_, rfl, ?_⟩) | (go_at_call 14; (with_reducible refine (word_Field.calls k 305419896 8 8 t119 _ A4.out).mono ?_); rintro e w' ⟨rfl, ⟨nd, rfl⟩⟩) | (go_at_call 18; (with_reducible refine (word_Put.calls k 0 4 4 171 t120 _ A6.out).mono ?_); rintro e w' ⟨rfl, ⟨nd, rfl⟩⟩))
        go_ret
        exact ⟨by first | rfl | (simp; done) | (simp [*]; done), by repeat (first | exact Drawn0.refl _ | apply Drawn0.step)⟩
    · rw [if_neg c5] at H
      have c5b0 : (t119 == 86) = false := beq_eq_false_iff_ne.mpr c5
      have c5b1 : (t119 != 86) = true := bne_iff_ne.mpr c5
      obtain rfl := Option.some.inj H
      go_enter Try.func13, Try.ntmps13
      go_wp2_with (first | ((with_reducible refine gate_callee (f := 20) rfl ?_); refine goesL_ (some 4) rfl rfl Try.func20 (by kernel_rfl) rfl #[.int .i64 18, .int .u32 1, .int .u32 2] rfl (by (try simp only [List.map_toArray, List.map_cons, List.map_nil]); first | done | rfl | (simp only [List.length_drop, List.length_take]; rfl)) ?_; (with_reducible refine (word_Do.calls k 18 1 2 t116 t117 _ A1.out).mono ?_); rintro e w' ⟨rfl, ⟨nd, rfl⟩⟩; refine ⟨_, rfl, ?_⟩) | ((with_reducible refine gate_callee (f := 16) rfl ?_); refine goesL_ (some 7) rfl rfl Try.func16 (by kernel_rfl) rfl #[.int .u32 4095, .int .i64 12] rfl (by (try simp only [List.map_toArray, List.map_cons, List.map_nil]); first | done | rfl | (simp only [List.length_drop, List.length_take]; rfl)) ?_; (with_reducible refine (word_Sign.calls k 4095 12 t118 _ A2.out).mono ?_); rintro e w' ⟨rfl, ⟨nd, rfl⟩⟩; refine ⟨_, rfl, ?_⟩) | (go_at_call 14; (with_reducible refine (word_Field.calls k 305419896 8 8 t119 _ A4.out).mono ?_); rintro e w' ⟨rfl, ⟨nd, rfl⟩⟩))
      go_ret
      exact ⟨by first | rfl | (simp; done) | (simp [*]; done), by repeat (first | exact Drawn0.refl _ | apply Drawn0.step)⟩
  · rw [if_neg c3] at H
    have c3b0 : (t118 == 4294967295) = false := beq_eq_false_iff_ne.mpr c3
    have c3b1 : (t118 != 4294967295) = true := bne_iff_ne.mpr c3
    obtain rfl := Option.some.inj H
    go_enter Try.func13, Try.ntmps13
    go_wp2_with (first | ((with_reducible refine gate_callee (f := 20) rfl ?_); refine goesL_ (some 4) rfl rfl Try.func20 (by kernel_rfl) rfl #[.int .i64 18, .int .u32 1, .int .u32 2] rfl (by (try simp only [List.map_toArray, List.map_cons, List.map_nil]); first | done | rfl | (simp only [List.length_drop, List.length_take]; rfl)) ?_; (with_reducible refine (word_Do.calls k 18 1 2 t116 t117 _ A1.out).mono ?_); rintro e w' ⟨rfl, ⟨nd, rfl⟩⟩; refine ⟨_, rfl, ?_⟩) | ((with_reducible refine gate_callee (f := 16) rfl ?_); refine goesL_ (some 7) rfl rfl Try.func16 (by kernel_rfl) rfl #[.int .u32 4095, .int .i64 12] rfl (by (try simp only [List.map_toArray, List.map_cons, List.map_nil]); first | done | rfl | (simp only [List.length_drop, List.length_take]; rfl)) ?_; (with_reducible refine (word_Sign.calls k 4095 12 t118 _ A2.out).mono ?_); rintro e w' ⟨rfl, ⟨nd, rfl⟩⟩; refine ⟨_, rfl, ?_⟩))
    go_ret
    exact ⟨by first | rfl | (simp; done) | (simp [*]; done), by repeat (first | exact Drawn0.refl _ | apply Drawn0.step)⟩

/-! ### whetstoneref01_may: function 25 -/
def whetstoneref01_may.f (a0 : Int) (a1 : Int) : Option (Bool) := if a0 ≥ 0 then (if a0 ≤ 31 then (if a1 ≥ 1 then (if a1 ≤ 32 then (some (decide ((wrap64 (a0 + a1)) ≤ 32))) else (some false)) else (some false)) else (some false)) else (some false)
set_option maxHeartbeats 8000000 in
set_option maxRecDepth 100000 in
theorem whetstoneref01_may.calls (a0 : Int) (a1 : Int) (r : Bool) (w : World) (h : whetstoneref01_may.f a0 a1 = some r) :
    Calls Try.prog 25 #[.int .i64 a0, .int .i64 a1] w fun e w' => e = .returned (.bool r) ∧ Drawn0 w w' := by
  have H : (if a0 ≥ 0 then (if a0 ≤ 31 then (if a1 ≥ 1 then (if a1 ≤ 32 then (some (decide ((wrap64 (a0 + a1)) ≤ 32))) else (some false)) else (some false)) else (some false)) else (some false)) = some r := h
  clear h
  by_cases c3 : a0 ≥ 0
  · rw [if_pos c3] at H
    have c3b0 : decide (0 ≤ a0) = true := decide_eq_true c3
    clear c3
    by_cases c4 : a0 ≤ 31
    · rw [if_pos c4] at H
      have c4b0 : decide (a0 ≤ 31) = true := decide_eq_true c4
      clear c4
      by_cases c5 : a1 ≥ 1
      · rw [if_pos c5] at H
        have c5b0 : decide (1 ≤ a1) = true := decide_eq_true c5
        clear c5
        by_cases c6 : a1 ≤ 32
        · rw [if_pos c6] at H
          have c6b0 : decide (a1 ≤ 32) = true := decide_eq_true c6
          clear c6
          obtain rfl := Option.some.inj H
          go_enter Try.func25, Try.ntmps25
          go_wp2
          go_ret
          exact ⟨by first | rfl | (simp; done) | (simp [*]; done), by repeat (first | exact Drawn0.refl _ | apply Drawn0.step)⟩
        · rw [if_neg c6] at H
          have c6b0 : decide (a1 ≤ 32) = false := decide_eq_false c6
          clear c6
          obtain rfl := Option.some.inj H
          go_enter Try.func25, Try.ntmps25
          go_wp2
          go_ret
          exact ⟨by first | rfl | (simp; done) | (simp [*]; done), by repeat (first | exact Drawn0.refl _ | apply Drawn0.step)⟩
      · rw [if_neg c5] at H
        have c5b0 : decide (1 ≤ a1) = false := decide_eq_false c5
        clear c5
        obtain rfl := Option.some.inj H
        go_enter Try.func25, Try.ntmps25
        go_wp2
        go_ret
        exact ⟨by first | rfl | (simp; done) | (simp [*]; done), by repeat (first | exact Drawn0.refl _ | apply Drawn0.step)⟩
    · rw [if_neg c4] at H
      have c4b0 : decide (a0 ≤ 31) = false := decide_eq_false c4
      clear c4
      obtain rfl := Option.some.inj H
      go_enter Try.func25, Try.ntmps25
      go_wp2
      go_ret
      exact ⟨by first | rfl | (simp; done) | (simp [*]; done), by repeat (first | exact Drawn0.refl _ | apply Drawn0.step)⟩
  · rw [if_neg c3] at H
    have c3b0 : decide (0 ≤ a0) = false := decide_eq_false c3
    clear c3
    obtain rfl := Option.some.inj H
    go_enter Try.func25, Try.ntmps25
    go_wp2
    go_ret
    exact ⟨by first | rfl | (simp; done) | (simp [*]; done), by repeat (first | exact Drawn0.refl _ | apply Drawn0.step)⟩

/-! ### whetstoneref01_Bit: function 26 -/
def whetstoneref01_Bit.f (a0 : Int) (a1 : Int) : Option (Int) := if a1 < 0 then (some 0) else (if a1 > 31 then (some 0) else (if 0 ≤ a1 then (some (Go.bits .and .u32 (shr .u32 a0 a1) 1)) else (none)))
set_option maxHeartbeats 8000000 in
set_option maxRecDepth 100000 in
theorem whetstoneref01_Bit.calls (a0 : Int) (a1 : Int) (r : Int) (w : World) (h : whetstoneref01_Bit.f a0 a1 = some r) :
    Calls Try.prog 26 #[.int .u32 a0, .int .i64 a1] w fun e w' => e = .returned (.int .u32 r) ∧ Drawn0 w w' := by
  have H : (if a1 < 0 then (some 0) else (if a1 > 31 then (some 0) else (if 0 ≤ a1 then (some (Go.bits .and .u32 (shr .u32 a0 a1) 1)) else (none)))) = some r := h
  clear h
  by_cases c3 : a1 < 0
  · rw [if_pos c3] at H
    have c3b0 : decide (a1 < 0) = true := decide_eq_true c3
    clear c3
    obtain rfl := Option.some.inj H
    go_enter Try.func26, Try.ntmps26
    go_wp2
    go_ret
    exact ⟨by first | rfl | (simp; done) | (simp [*]; done), by repeat (first | exact Drawn0.refl _ | apply Drawn0.step)⟩
  · rw [if_neg c3] at H
    have c3b0 : decide (a1 < 0) = false := decide_eq_false c3
    clear c3
    by_cases c4 : a1 > 31
    · rw [if_pos c4] at H
      have c4b0 : decide (31 < a1) = true := decide_eq_true c4
      clear c4
      obtain rfl := Option.some.inj H
      go_enter Try.func26, Try.ntmps26
      go_wp2
      go_ret
      exact ⟨by first | rfl | (simp; done) | (simp [*]; done), by repeat (first | exact Drawn0.refl _ | apply Drawn0.step)⟩
    · rw [if_neg c4] at H
      have c4b0 : decide (31 < a1) = false := decide_eq_false c4
      clear c4
      by_cases c5 : 0 ≤ a1
      · rw [if_pos c5] at H
        have c5b0 := eq_true c5
        have c5b1 : decide (0 ≤ a1) = true := decide_eq_true c5
        clear c5
        obtain ⟨ji6, hji6⟩ : ∃ j_ : Int, (shr .u32 a0 a1) = j_ := ⟨_, rfl⟩
        replace H : (some (Go.bits .and .u32 (ji6) 1)) = some r := by first | (rw [hji6] at H; exact H) | (simp only [hji6] at H ⊢; exact H)
        have hji6_ : (a0 / 2 ^ min a1.toNat 32) = ji6 := hji6
        have hji6z : a1 ≤ 32 → (a0 / 2 ^ a1.toNat) = ji6 := shr_small hji6
        obtain rfl := Option.some.inj H
        go_enter Try.func26, Try.ntmps26
        go_wp2
        go_ret
        exact ⟨by first | rfl | (simp; done) | (simp only [← hji6] <;> (first | rfl | simp)) | (simp [*]; done), by repeat (first | exact Drawn0.refl _ | apply Drawn0.step)⟩
      · rw [if_neg c5] at H
        exact absurd H (by simp)

end Go.Proofs.Ytebgdkhfeegcfaa.Q
