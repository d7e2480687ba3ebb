-- Written by this session's own driver (wip/tools/ownprint.py) over the kit's print: walks of the translated Go, each function once.
import Derived.Test.YtebgdkhfeegcfaaQx0
import Derived.Test.YtebgdkhfeegcfaaQx1
import Derived.Test.YtebgdkhfeegcfaaQx2
import Derived.Test.YtebgdkhfeegcfaaQx5
namespace Go.Proofs.Ytebgdkhfeegcfaa.Q
open Go.RowKit Go.Proofs.YtebgdkhfeegcfaaW.PrintWords Go.Proofs.YtebgdkhfeegcfaaW.PrintLast Go.Proofs.YtebgdkhfeegcfaaW.PrintMore
attribute [local go_sem] max2_int min2_int max_two min_two max_three min_three max_four min_four   -- for this text's walks alone
attribute [local go_sem] imax_u32 imax_u8 isg_u32 isg_u8
set_option linter.unusedVariables false
set_option linter.unusedSimpArgs false

/-! ### whetstonelaw01_WordShifts: function 8 -/
def whetstonelaw01_WordShifts.j0 : Nat → Int → Int → Int → Bool → Option (Bool)
  | 0, _, _, _, _ => none
  | k + 1, x0, x1, x7, x48 => if x48 = true then (some false) else (if (x0 / 2147483648) = 1 then ((whetstonelaw01_does.f k 34 x0 x1).bind fun t233 => ((whetstonelaw01_does.f k 34 (Go.bits .xor .u32 4294967295 x0) x1).bind fun t234 => (if t233 = (Go.bits .xor .u32 4294967295 t234) then ((whetstonelaw01_fixed.f k).bind fun t235 => (some t235)) else (some false)))) else ((whetstonelaw01_does.f k 34 x0 x1).bind fun t236 => (if t236 = x7 then ((whetstonelaw01_does.f k 34 (Go.bits .xor .u32 4294967295 x0) x1).bind fun t237 => (if t236 = (Go.bits .xor .u32 4294967295 t237) then ((whetstonelaw01_fixed.f k).bind fun t238 => (some t238)) else (some false))) else (some false))))
def whetstonelaw01_WordShifts.f (k : Nat) (a0 : Int) (a1 : Int) : Option (Bool) := (whetstonelaw01_does.f k 29 a0 a1).bind fun t225 => ((whetstonelaw01_does.f k 33 a0 a1).bind fun t226 => ((whetstonelaw01_does.f k 29 a0 (Go.bits .and .u32 a1 31)).bind fun t227 => (if t227 = t225 then ((whetstonelaw01_does.f k 33 a0 (Go.bits .and .u32 a1 31)).bind fun t228 => (if t228 = t226 then ((whetstonelaw01_does.f k 33 t225 a1).bind fun t229 => ((word_Field.f k a0 0 ((32 - (Go.bits .and .u32 a1 31)) % 4294967296)).bind fun t230 => (if t229 = t230 then ((whetstonelaw01_does.f k 29 t226 a1).bind fun t231 => ((word_Put.f k a0 0 (wrap64 (Go.bits .and .u32 a1 31)) 0).bind fun t232 => (whetstonelaw01_WordShifts.j0 k a0 a1 t226 (t231 != t232)))) else (whetstonelaw01_WordShifts.j0 k a0 a1 t226 true)))) else (whetstonelaw01_WordShifts.j0 k a0 a1 t226 true))) else (whetstonelaw01_WordShifts.j0 k a0 a1 t226 true))))
theorem whetstonelaw01_WordShifts.mono_l : ∀ k, (∀ y0 y1 y2 y3, LeO (whetstonelaw01_WordShifts.j0 k y0 y1 y2 y3) (whetstonelaw01_WordShifts.j0 (k + 1) y0 y1 y2 y3))
  | 0 => fun _ _ _ _ r h => by simp [whetstonelaw01_WordShifts.j0] at h
  | k + 1 => by
    have ih0 := whetstonelaw01_WordShifts.mono_l k
    · intro y0 y1 y2 y3
      unfold whetstonelaw01_WordShifts.j0
      repeat' first
      | (with_reducible exact ih0 _ _ _ _)
      | (with_reducible exact whetstonelaw01_does.mono _ _ _ _)
      | (with_reducible exact whetstonelaw01_fixed.mono _)
      | (with_reducible exact word_Field.mono _ _ _ _)
      | (with_reducible exact word_Put.mono _ _ _ _ _)
      | (with_reducible exact LeO.refl _)
      | (with_reducible exact LeO.none _)
      | (with_reducible refine LeO.ite ?_ ?_)
      | (with_reducible refine LeO.bind ?_ (fun _ => ?_))
      | exact ih0 _ _ _ _
      | exact whetstonelaw01_does.mono _ _ _ _
      | exact whetstonelaw01_fixed.mono _
      | exact word_Field.mono _ _ _ _
      | exact word_Put.mono _ _ _ _ _
      | exact LeO.none _
      | refine LeO.ite ?_ ?_
      | refine LeO.bind ?_ (fun _ => ?_)
theorem whetstonelaw01_WordShifts.mono : ∀ a0 a1 k, LeO (whetstonelaw01_WordShifts.f k a0 a1) (whetstonelaw01_WordShifts.f (k + 1) a0 a1) := by
  intro a0 a1 k
  have ih0 := whetstonelaw01_WordShifts.mono_l k
  unfold whetstonelaw01_WordShifts.f
  repeat' first
      | (with_reducible exact ih0 _ _ _ _)
      | (with_reducible exact whetstonelaw01_does.mono _ _ _ _)
      | (with_reducible exact whetstonelaw01_fixed.mono _)
      | (with_reducible exact word_Field.mono _ _ _ _)
      | (with_reducible exact word_Put.mono _ _ _ _ _)
      | (with_reducible exact LeO.refl _)
      | (with_reducible exact LeO.none _)
      | (with_reducible refine LeO.ite ?_ ?_)
      | (with_reducible refine LeO.bind ?_ (fun _ => ?_))
      | exact ih0 _ _ _ _
      | exact whetstonelaw01_does.mono _ _ _ _
      | exact whetstonelaw01_fixed.mono _
      | exact word_Field.mono _ _ _ _
      | exact word_Put.mono _ _ _ _ _
      | exact LeO.none _
      | refine LeO.ite ?_ ?_
      | refine LeO.bind ?_ (fun _ => ?_)
set_option maxHeartbeats 8000000 in
set_option maxRecDepth 100000 in
theorem whetstonelaw01_WordShifts.calls (k : Nat) (a0 : Int) (a1 : Int) (r : Bool) (w : World) (h : whetstonelaw01_WordShifts.f k a0 a1 = some r) :
    Calls Try.prog 8 #[.int .u32 a0, .int .u32 a1] w fun e w' => e = .returned (.bool r) ∧ Drawn0 w w' := by
  have H : ((whetstonelaw01_does.f k 29 a0 a1).bind fun t225 => ((whetstonelaw01_does.f k 33 a0 a1).bind fun t226 => ((whetstonelaw01_does.f k 29 a0 (Go.bits .and .u32 a1 31)).bind fun t227 => (if t227 = t225 then ((whetstonelaw01_does.f k 33 a0 (Go.bits .and .u32 a1 31)).bind fun t228 => (if t228 = t226 then ((whetstonelaw01_does.f k 33 t225 a1).bind fun t229 => ((word_Field.f k a0 0 ((32 - (Go.bits .and .u32 a1 31)) % 4294967296)).bind fun t230 => (if t229 = t230 then ((whetstonelaw01_does.f k 29 t226 a1).bind fun t231 => ((word_Put.f k a0 0 (wrap64 (Go.bits .and .u32 a1 31)) 0).bind fun t232 => (whetstonelaw01_WordShifts.j0 k a0 a1 t226 (t231 != t232)))) else (whetstonelaw01_WordShifts.j0 k a0 a1 t226 true)))) else (whetstonelaw01_WordShifts.j0 k a0 a1 t226 true))) else (whetstonelaw01_WordShifts.j0 k a0 a1 t226 true))))) = some r := h
  clear h
  replace H := Option.bind_eq_some_iff.mp H
  obtain ⟨t225, A30, H⟩ := H
  replace H : ((whetstonelaw01_does.f k 33 a0 a1).bind fun t226 => ((whetstonelaw01_does.f k 29 a0 (Go.bits .and .u32 a1 31)).bind fun t227 => (if t227 = t225 then ((whetstonelaw01_does.f k 33 a0 (Go.bits .and .u32 a1 31)).bind fun t228 => (if t228 = t226 then ((whetstonelaw01_does.f k 33 t225 a1).bind fun t229 => ((word_Field.f k a0 0 ((32 - (Go.bits .and .u32 a1 31)) % 4294967296)).bind fun t230 => (if t229 = t230 then ((whetstonelaw01_does.f k 29 t226 a1).bind fun t231 => ((word_Put.f k a0 0 (wrap64 (Go.bits .and .u32 a1 31)) 0).bind fun t232 => (whetstonelaw01_WordShifts.j0 k a0 a1 t226 (t231 != t232)))) else (whetstonelaw01_WordShifts.j0 k a0 a1 t226 true)))) else (whetstonelaw01_WordShifts.j0 k a0 a1 t226 true))) else (whetstonelaw01_WordShifts.j0 k a0 a1 t226 true)))) = some r := H
  have A3 := Aside0.mk A30
  clear A30
  replace H := Option.bind_eq_some_iff.mp H
  obtain ⟨t226, A40, H⟩ := H
  replace H : ((whetstonelaw01_does.f k 29 a0 (Go.bits .and .u32 a1 31)).bind fun t227 => (if t227 = t225 then ((whetstonelaw01_does.f k 33 a0 (Go.bits .and .u32 a1 31)).bind fun t228 => (if t228 = t226 then ((whetstonelaw01_does.f k 33 t225 a1).bind fun t229 => ((word_Field.f k a0 0 ((32 - (Go.bits .and .u32 a1 31)) % 4294967296)).bind fun t230 => (if t229 = t230 then ((whetstonelaw01_does.f k 29 t226 a1).bind fun t231 => ((word_Put.f k a0 0 (wrap64 (Go.bits .and .u32 a1 31)) 0).bind fun t232 => (whetstonelaw01_WordShifts.j0 k a0 a1 t226 (t231 != t232)))) else (whetstonelaw01_WordShifts.j0 k a0 a1 t226 true)))) else (whetstonelaw01_WordShifts.j0 k a0 a1 t226 true))) else (whetstonelaw01_WordShifts.j0 k a0 a1 t226 true))) = some r := H
  have A4 := Aside0.mk A40
  clear A40
  have HC5 := Aside0.mk H
  clear H
  go_enter Try.func8, Try.ntmps8
  go_upto_region 3 with (first | ((with_reducible refine gate_callee (f := 22) rfl ?_); refine goesL_ (some 12) rfl rfl Try.func22 (by kernel_rfl) rfl #[.int .i64 29, .int .u32 a0, .int .u32 a1] rfl (by (try simp only [List.map_toArray, List.map_cons, List.map_nil]); first | done | rfl | (simp only [List.length_drop, List.length_take]; rfl)) ?_; (with_reducible refine (whetstonelaw01_does.calls k 29 a0 a1 t225 _ A3.out).mono ?_); rintro e w' ⟨rfl, ⟨nd, rfl⟩⟩; refine ⟨_, rfl, ?_⟩) | ((with_reducible refine gate_callee (f := 22) rfl ?_); refine goesL_ (some 15) rfl rfl Try.func22 (by kernel_rfl) rfl #[.int .i64 33, .int .u32 a0, .int .u32 a1] rfl (by (try simp only [List.map_toArray, List.map_cons, List.map_nil]); first | done | rfl | (simp only [List.length_drop, List.length_take]; rfl)) ?_; (with_reducible refine (whetstonelaw01_does.calls k 33 a0 a1 t226 _ A4.out).mono ?_); rintro e w' ⟨rfl, ⟨nd, rfl⟩⟩; refine ⟨_, rfl, ?_⟩))
  (try simp only [Act.put, List.setIfInBounds_toArray, List.set_cons_zero, List.set_cons_succ])
  go_cut [48] (fun v48 wc => ∃ (kq : Nat) (x48_4 : Bool), v48 = .bool x48_4 ∧ Aside0 (whetstonelaw01_WordShifts.j0 kq a0 a1 t226 x48_4 = some r) ∧ Aside0 (kq ≤ k) ∧ Drawn0 w wc)
  case first =>
    have H := HC5.out
    clear HC5
    replace H := Option.bind_eq_some_iff.mp H
    obtain ⟨t227, A60, H⟩ := H
    replace H : (if t227 = t225 then ((whetstonelaw01_does.f k 33 a0 (Go.bits .and .u32 a1 31)).bind fun t228 => (if t228 = t226 then ((whetstonelaw01_does.f k 33 t225 a1).bind fun t229 => ((word_Field.f k a0 0 ((32 - (Go.bits .and .u32 a1 31)) % 4294967296)).bind fun t230 => (if t229 = t230 then ((whetstonelaw01_does.f k 29 t226 a1).bind fun t231 => ((word_Put.f k a0 0 (wrap64 (Go.bits .and .u32 a1 31)) 0).bind fun t232 => (whetstonelaw01_WordShifts.j0 k a0 a1 t226 (t231 != t232)))) else (whetstonelaw01_WordShifts.j0 k a0 a1 t226 true)))) else (whetstonelaw01_WordShifts.j0 k a0 a1 t226 true))) else (whetstonelaw01_WordShifts.j0 k a0 a1 t226 true)) = some r := H
    have A6 := Aside0.mk A60
    clear A60
    by_cases c7 : t227 = t225
    · rw [if_pos c7] at H
      have c7b0 : (t227 == t225) = true := beq_iff_eq.mpr c7
      have c7b1 : (t227 != t225) = false := bne_eq_false_iff_eq.mpr c7
      clear c7
      (first | rw [c7b0] | (simp only [i64_w, i32_w]; rw [c7b0]) | skip)
      replace H := Option.bind_eq_some_iff.mp H
      obtain ⟨t228, A80, H⟩ := H
      replace H : (if t228 = t226 then ((whetstonelaw01_does.f k 33 t225 a1).bind fun t229 => ((word_Field.f k a0 0 ((32 - (Go.bits .and .u32 a1 31)) % 4294967296)).bind fun t230 => (if t229 = t230 then ((whetstonelaw01_does.f k 29 t226 a1).bind fun t231 => ((word_Put.f k a0 0 (wrap64 (Go.bits .and .u32 a1 31)) 0).bind fun t232 => (whetstonelaw01_WordShifts.j0 k a0 a1 t226 (t231 != t232)))) else (whetstonelaw01_WordShifts.j0 k a0 a1 t226 true)))) else (whetstonelaw01_WordShifts.j0 k a0 a1 t226 true)) = some r := H
      have A8 := Aside0.mk A80
      clear A80
      by_cases c9 : t228 = t226
      · rw [if_pos c9] at H
        have c9b0 : (t228 == t226) = true := beq_iff_eq.mpr c9
        have c9b1 : (t228 != t226) = false := bne_eq_false_iff_eq.mpr c9
        clear c9
        replace H := Option.bind_eq_some_iff.mp H
        obtain ⟨t229, A100, H⟩ := H
        replace H : ((word_Field.f k a0 0 ((32 - (Go.bits .and .u32 a1 31)) % 4294967296)).bind fun t230 => (if t229 = t230 then ((whetstonelaw01_does.f k 29 t226 a1).bind fun t231 => ((word_Put.f k a0 0 (wrap64 (Go.bits .and .u32 a1 31)) 0).bind fun t232 => (whetstonelaw01_WordShifts.j0 k a0 a1 t226 (t231 != t232)))) else (whetstonelaw01_WordShifts.j0 k a0 a1 t226 true))) = some r := H
        have A10 := Aside0.mk A100
        clear A100
        replace H := Option.bind_eq_some_iff.mp H
        obtain ⟨t230, A110, H⟩ := H
        replace H : (if t229 = t230 then ((whetstonelaw01_does.f k 29 t226 a1).bind fun t231 => ((word_Put.f k a0 0 (wrap64 (Go.bits .and .u32 a1 31)) 0).bind fun t232 => (whetstonelaw01_WordShifts.j0 k a0 a1 t226 (t231 != t232)))) else (whetstonelaw01_WordShifts.j0 k a0 a1 t226 true)) = some r := H
        have A11 := Aside0.mk A110
        clear A110
        by_cases c12 : t229 = t230
        · rw [if_pos c12] at H
          have c12b0 : (t229 == t230) = true := beq_iff_eq.mpr c12
          have c12b1 : (t229 != t230) = false := bne_eq_false_iff_eq.mpr c12
          clear c12
          replace H := Option.bind_eq_some_iff.mp H
          obtain ⟨t231, A130, H⟩ := H
          replace H : ((word_Put.f k a0 0 (wrap64 (Go.bits .and .u32 a1 31)) 0).bind fun t232 => (whetstonelaw01_WordShifts.j0 k a0 a1 t226 (t231 != t232))) = some r := H
          have A13 := Aside0.mk A130
          clear A130
          replace H := Option.bind_eq_some_iff.mp H
          obtain ⟨t232, A140, H⟩ := H
          replace H : (whetstonelaw01_WordShifts.j0 k a0 a1 t226 (t231 != t232)) = some r := H
          have A14 := Aside0.mk A140
          clear A140
          have H' := Aside0.mk H
          clear H
          go_wp2_with (first | ((with_reducible refine gate_callee (f := 22) rfl ?_); refine goesL_ (some 18) rfl rfl Try.func22 (by kernel_rfl) rfl #[.int .i64 29, .int .u32 a0, .int .u32 (Go.bits .and .u32 a1 31)] rfl (by (try simp only [List.map_toArray, List.map_cons, List.map_nil]); first | done | rfl | (simp only [List.length_drop, List.length_take]; rfl)) ?_; (with_reducible refine (whetstonelaw01_does.calls k 29 a0 (Go.bits .and .u32 a1 31) t227 _ A6.out).mono ?_); rintro e w' ⟨rfl, ⟨nd, rfl⟩⟩; refine ⟨_, rfl, ?_⟩) | (go_at_call 22; (with_reducible refine (whetstonelaw01_does.calls k 33 a0 (Go.bits .and .u32 a1 31) t228 _ A8.out).mono ?_); rintro e w' ⟨rfl, ⟨nd, rfl⟩⟩) | (go_at_call 22; (with_reducible refine (whetstonelaw01_does.calls k 33 t225 a1 t229 _ A10.out).mono ?_); rintro e w' ⟨rfl, ⟨nd, rfl⟩⟩) | (go_at_call 14; (with_reducible refine (word_Field.calls k a0 0 ((32 - (Go.bits .and .u32 a1 31)) % 4294967296) t230 _ A11.out).mono ?_); rintro e w' ⟨rfl, ⟨nd, rfl⟩⟩) | (go_at_call 22; (with_reducible refine (whetstonelaw01_does.calls k 29 t226 a1 t231 _ A13.out).mono ?_); rintro e w' ⟨rfl, ⟨nd, rfl⟩⟩) | (go_at_call 18; (with_reducible refine (word_Put.calls k a0 0 (wrap64 (Go.bits .and .u32 a1 31)) 0 t232 _ A14.out).mono ?_); rintro e w' ⟨rfl, ⟨nd, rfl⟩⟩))
          go_meet
          case rel => exact ⟨_, ((t231 != t232)), (by first | rfl | (simp; done) | (simp [*]; done)), H', ⟨by first | omega | exact Nat.le_refl _⟩, by repeat (first | exact Drawn0.refl _ | apply Drawn0.step)⟩
        · rw [if_neg c12] at H
          have c12b0 : (t229 == t230) = false := beq_eq_false_iff_ne.mpr c12
          have c12b1 : (t229 != t230) = true := bne_iff_ne.mpr c12
          have H' := Aside0.mk H
          clear H
          go_wp2_with (first | ((with_reducible refine gate_callee (f := 22) rfl ?_); refine goesL_ (some 18) rfl rfl Try.func22 (by kernel_rfl) rfl #[.int .i64 29, .int .u32 a0, .int .u32 (Go.bits .and .u32 a1 31)] rfl (by (try simp only [List.map_toArray, List.map_cons, List.map_nil]); first | done | rfl | (simp only [List.length_drop, List.length_take]; rfl)) ?_; (with_reducible refine (whetstonelaw01_does.calls k 29 a0 (Go.bits .and .u32 a1 31) t227 _ A6.out).mono ?_); rintro e w' ⟨rfl, ⟨nd, rfl⟩⟩; refine ⟨_, rfl, ?_⟩) | (go_at_call 22; (with_reducible refine (whetstonelaw01_does.calls k 33 a0 (Go.bits .and .u32 a1 31) t228 _ A8.out).mono ?_); rintro e w' ⟨rfl, ⟨nd, rfl⟩⟩) | (go_at_call 22; (with_reducible refine (whetstonelaw01_does.calls k 33 t225 a1 t229 _ A10.out).mono ?_); rintro e w' ⟨rfl, ⟨nd, rfl⟩⟩) | (go_at_call 14; (with_reducible refine (word_Field.calls k a0 0 ((32 - (Go.bits .and .u32 a1 31)) % 4294967296) t230 _ A11.out).mono ?_); rintro e w' ⟨rfl, ⟨nd, rfl⟩⟩))
          go_meet
          case rel => exact ⟨_, (true), (by first | rfl | (simp; done) | (simp [*]; done)), H', ⟨by first | omega | exact Nat.le_refl _⟩, by repeat (first | exact Drawn0.refl _ | apply Drawn0.step)⟩
      · rw [if_neg c9] at H
        have c9b0 : (t228 == t226) = false := beq_eq_false_iff_ne.mpr c9
        have c9b1 : (t228 != t226) = true := bne_iff_ne.mpr c9
        have H' := Aside0.mk H
        clear H
        go_wp2_with (first | ((with_reducible refine gate_callee (f := 22) rfl ?_); refine goesL_ (some 18) rfl rfl Try.func22 (by kernel_rfl) rfl #[.int .i64 29, .int .u32 a0, .int .u32 (Go.bits .and .u32 a1 31)] rfl (by (try simp only [List.map_toArray, List.map_cons, List.map_nil]); first | done | rfl | (simp only [List.length_drop, List.length_take]; rfl)) ?_; (with_reducible refine (whetstonelaw01_does.calls k 29 a0 (Go.bits .and .u32 a1 31) t227 _ A6.out).mono ?_); rintro e w' ⟨rfl, ⟨nd, rfl⟩⟩; refine ⟨_, rfl, ?_⟩) | (go_at_call 22; (with_reducible refine (whetstonelaw01_does.calls k 33 a0 (Go.bits .and .u32 a1 31) t228 _ A8.out).mono ?_); rintro e w' ⟨rfl, ⟨nd, rfl⟩⟩))
        go_meet
        case rel => exact ⟨_, (true), (by first | rfl | (simp; done) | (simp [*]; done)), H', ⟨by first | omega | exact Nat.le_refl _⟩, by repeat (first | exact Drawn0.refl _ | apply Drawn0.step)⟩
    · rw [if_neg c7] at H
      have c7b0 : (t227 == t225) = false := beq_eq_false_iff_ne.mpr c7
      have c7b1 : (t227 != t225) = true := bne_iff_ne.mpr c7
      (first | rw [c7b0] | (simp only [i64_w, i32_w]; rw [c7b0]) | skip)
      have H' := Aside0.mk H
      clear H
      go_wp2_with (first | ((with_reducible refine gate_callee (f := 22) rfl ?_); refine goesL_ (some 18) rfl rfl Try.func22 (by kernel_rfl) rfl #[.int .i64 29, .int .u32 a0, .int .u32 (Go.bits .and .u32 a1 31)] rfl (by (try simp only [List.map_toArray, List.map_cons, List.map_nil]); first | done | rfl | (simp only [List.length_drop, List.length_take]; rfl)) ?_; (with_reducible refine (whetstonelaw01_does.calls k 29 a0 (Go.bits .and .u32 a1 31) t227 _ A6.out).mono ?_); rintro e w' ⟨rfl, ⟨nd, rfl⟩⟩; refine ⟨_, rfl, ?_⟩))
      go_meet
      case rel => exact ⟨_, (true), (by first | rfl | (simp; done) | (simp [*]; done)), H', ⟨by first | omega | exact Nat.le_refl _⟩, by repeat (first | exact Drawn0.refl _ | apply Drawn0.step)⟩
  case rest =>
    clear HC5
    try clear c1
    try clear c2
    try clear p2
    try clear p6
    try clear c7
    try clear c7b0
    try clear c7b1
    try clear c8
    try clear c9
    try clear c9b0
    try clear c9b1
    try clear c12
    try clear c12b0
    try clear c12b1
    obtain ⟨kq, x48_4, rfl, HA, HJ4, ⟨mc4, rfl⟩⟩ := hcut
    cases kq with
    | zero => exact absurd HA.out (by simp [whetstonelaw01_WordShifts.j0])
    | succ kj4 =>
      have H := HA.out
      clear HA
      simp only [whetstonelaw01_WordShifts.j0] at H
      by_cases c15 : x48_4 = true
      · subst c15
        have H1 : (some false) = some r := by rw [if_pos rfl] at H; exact H
        clear H
        have H := H1
        clear H1
        obtain rfl := Option.some.inj H
        go_wp2
        go_ret
        exact ⟨by first | rfl | (simp; done) | (simp [*]; done), by repeat (first | exact Drawn0.refl _ | apply Drawn0.step)⟩
      · replace c15 := Bool.eq_false_iff.mpr c15
        subst c15
        have H1 : (if (a0 / 2147483648) = 1 then ((whetstonelaw01_does.f kj4 34 a0 a1).bind fun t233 => ((whetstonelaw01_does.f kj4 34 (Go.bits .xor .u32 4294967295 a0) a1).bind fun t234 => (if t233 = (Go.bits .xor .u32 4294967295 t234) then ((whetstonelaw01_fixed.f kj4).bind fun t235 => (some t235)) else (some false)))) else ((whetstonelaw01_does.f kj4 34 a0 a1).bind fun t236 => (if t236 = t226 then ((whetstonelaw01_does.f kj4 34 (Go.bits .xor .u32 4294967295 a0) a1).bind fun t237 => (if t236 = (Go.bits .xor .u32 4294967295 t237) then ((whetstonelaw01_fixed.f kj4).bind fun t238 => (some t238)) else (some false))) else (some false)))) = some r := by rw [if_neg (show ¬ (false = true) by decide)] at H; exact H
        clear H
        have H := H1
        clear H1
        by_cases c16 : (a0 / 2147483648) = 1
        · rw [if_pos c16] at H
          have c16b0 : ((a0 / 2147483648) == 1) = true := beq_iff_eq.mpr c16
          have c16b1 : ((a0 / 2147483648) != 1) = false := bne_eq_false_iff_eq.mpr c16
          clear c16
          replace H := Option.bind_eq_some_iff.mp H
          obtain ⟨t233, A170, H⟩ := H
          replace H : ((whetstonelaw01_does.f kj4 34 (Go.bits .xor .u32 4294967295 a0) a1).bind fun t234 => (if t233 = (Go.bits .xor .u32 4294967295 t234) then ((whetstonelaw01_fixed.f kj4).bind fun t235 => (some t235)) else (some false))) = some r := H
          have A17 := Aside0.mk A170
          clear A170
          replace H := Option.bind_eq_some_iff.mp H
          obtain ⟨t234, A180, H⟩ := H
          replace H : (if t233 = (Go.bits .xor .u32 4294967295 t234) then ((whetstonelaw01_fixed.f kj4).bind fun t235 => (some t235)) else (some false)) = some r := H
          have A18 := Aside0.mk A180
          clear A180
          by_cases c19 : t233 = (Go.bits .xor .u32 4294967295 t234)
          · rw [if_pos c19] at H
            have c19b0 : (t233 == (Go.bits .xor .u32 4294967295 t234)) = true := beq_iff_eq.mpr c19
            have c19b1 : (t233 != (Go.bits .xor .u32 4294967295 t234)) = false := bne_eq_false_iff_eq.mpr c19
            clear c19
            replace H := Option.bind_eq_some_iff.mp H
            obtain ⟨t235, A200, H⟩ := H
            replace H : (some t235) = some r := H
            have A20 := Aside0.mk A200
            clear A200
            obtain rfl := Option.some.inj H
            go_wp2_with (first | (go_at_call 22; (with_reducible refine (whetstonelaw01_does.calls kj4 34 a0 a1 t233 _ A17.out).mono ?_); rintro e w' ⟨rfl, ⟨nd, rfl⟩⟩) | (go_at_call 22; (with_reducible refine (whetstonelaw01_does.calls kj4 34 (Go.bits .xor .u32 4294967295 a0) a1 t234 _ A18.out).mono ?_); rintro e w' ⟨rfl, ⟨nd, rfl⟩⟩) | (go_at_call 13; (with_reducible refine (whetstonelaw01_fixed.calls kj4  t235 _ A20.out).mono ?_); rintro e w' ⟨rfl, ⟨nd, rfl⟩⟩))
            go_ret
            exact ⟨by first | rfl | (simp; done) | (simp [*]; done), by repeat (first | exact Drawn0.refl _ | apply Drawn0.step)⟩
          · rw [if_neg c19] at H
            have c19b0 : (t233 == (Go.bits .xor .u32 4294967295 t234)) = false := beq_eq_false_iff_ne.mpr c19
            have c19b1 : (t233 != (Go.bits .xor .u32 4294967295 t234)) = true := bne_iff_ne.mpr c19
            obtain rfl := Option.some.inj H
            go_wp2_with (first | (go_at_call 22; (with_reducible refine (whetstonelaw01_does.calls kj4 34 a0 a1 t233 _ A17.out).mono ?_); rintro e w' ⟨rfl, ⟨nd, rfl⟩⟩) | (go_at_call 22; (with_reducible refine (whetstonelaw01_does.calls kj4 34 (Go.bits .xor .u32 4294967295 a0) a1 t234 _ A18.out).mono ?_); rintro e w' ⟨rfl, ⟨nd, rfl⟩⟩))
            go_ret
            exact ⟨by first | rfl | (simp; done) | (simp [*]; done), by repeat (first | exact Drawn0.refl _ | apply Drawn0.step)⟩
        · rw [if_neg c16] at H
          have c16b0 : ((a0 / 2147483648) == 1) = false := beq_eq_false_iff_ne.mpr c16
          have c16b1 : ((a0 / 2147483648) != 1) = true := bne_iff_ne.mpr c16
          replace H := Option.bind_eq_some_iff.mp H
          obtain ⟨t236, A210, H⟩ := H
          replace H : (if t236 = t226 then ((whetstonelaw01_does.f kj4 34 (Go.bits .xor .u32 4294967295 a0) a1).bind fun t237 => (if t236 = (Go.bits .xor .u32 4294967295 t237) then ((whetstonelaw01_fixed.f kj4).bind fun t238 => (some t238)) else (some false))) else (some false)) = some r := H
          have A21 := Aside0.mk A210
          clear A210
          by_cases c22 : t236 = t226
          · rw [if_pos c22] at H
            have c22b0 : (t236 == t226) = true := beq_iff_eq.mpr c22
            have c22b1 : (t236 != t226) = false := bne_eq_false_iff_eq.mpr c22
            clear c22
            replace H := Option.bind_eq_some_iff.mp H
            obtain ⟨t237, A230, H⟩ := H
            replace H : (if t236 = (Go.bits .xor .u32 4294967295 t237) then ((whetstonelaw01_fixed.f kj4).bind fun t238 => (some t238)) else (some false)) = some r := H
            have A23 := Aside0.mk A230
            clear A230
            by_cases c24 : t236 = (Go.bits .xor .u32 4294967295 t237)
            · rw [if_pos c24] at H
              have c24b0 : (t236 == (Go.bits .xor .u32 4294967295 t237)) = true := beq_iff_eq.mpr c24
              have c24b1 : (t236 != (Go.bits .xor .u32 4294967295 t237)) = false := bne_eq_false_iff_eq.mpr c24
              clear c24
              replace H := Option.bind_eq_some_iff.mp H
              obtain ⟨t238, A250, H⟩ := H
              replace H : (some t238) = some r := H
              have A25 := Aside0.mk A250
              clear A250
              obtain rfl := Option.some.inj H
              go_wp2_with (first | (go_at_call 22; (with_reducible refine (whetstonelaw01_does.calls kj4 34 a0 a1 t236 _ A21.out).mono ?_); rintro e w' ⟨rfl, ⟨nd, rfl⟩⟩) | (go_at_call 22; (with_reducible refine (whetstonelaw01_does.calls kj4 34 (Go.bits .xor .u32 4294967295 a0) a1 t237 _ A23.out).mono ?_); rintro e w' ⟨rfl, ⟨nd, rfl⟩⟩) | (go_at_call 13; (with_reducible refine (whetstonelaw01_fixed.calls kj4  t238 _ A25.out).mono ?_); rintro e w' ⟨rfl, ⟨nd, rfl⟩⟩))
              go_ret
              exact ⟨by first | rfl | (simp; done) | (simp [*]; done), by repeat (first | exact Drawn0.refl _ | apply Drawn0.step)⟩
            · rw [if_neg c24] at H
              have c24b0 : (t236 == (Go.bits .xor .u32 4294967295 t237)) = false := beq_eq_false_iff_ne.mpr c24
              have c24b1 : (t236 != (Go.bits .xor .u32 4294967295 t237)) = true := bne_iff_ne.mpr c24
              obtain rfl := Option.some.inj H
              go_wp2_with (first | (go_at_call 22; (with_reducible refine (whetstonelaw01_does.calls kj4 34 a0 a1 t236 _ A21.out).mono ?_); rintro e w' ⟨rfl, ⟨nd, rfl⟩⟩) | (go_at_call 22; (with_reducible refine (whetstonelaw01_does.calls kj4 34 (Go.bits .xor .u32 4294967295 a0) a1 t237 _ A23.out).mono ?_); rintro e w' ⟨rfl, ⟨nd, rfl⟩⟩))
              go_ret
              exact ⟨by first | rfl | (simp; done) | (simp [*]; done), by repeat (first | exact Drawn0.refl _ | apply Drawn0.step)⟩
          · rw [if_neg c22] at H
            have c22b0 : (t236 == t226) = false := beq_eq_false_iff_ne.mpr c22
            have c22b1 : (t236 != t226) = true := bne_iff_ne.mpr c22
            obtain rfl := Option.some.inj H
            go_wp2_with (first | (go_at_call 22; (with_reducible refine (whetstonelaw01_does.calls kj4 34 a0 a1 t236 _ A21.out).mono ?_); rintro e w' ⟨rfl, ⟨nd, rfl⟩⟩))
            go_ret
            exact ⟨by first | rfl | (simp; done) | (simp [*]; done), by repeat (first | exact Drawn0.refl _ | apply Drawn0.step)⟩

/-- THE ONE PURE STATEMENT of whetstonelaw01_WordShifts: yours. -/
def whetstonelaw01_WordShifts.Pure : Prop := ∀ (a0 : Int) (a1 : Int), (Lit.int .u32 a0).wf = true → (Lit.int .u32 a1).wf = true → ∃ k, whetstonelaw01_WordShifts.f k a0 a1 = some true
theorem whetstonelaw01_WordShifts.walk (P : whetstonelaw01_WordShifts.Pure) (a0 : Int) (a1 : Int) (w : World) (w0 : (Lit.int .u32 a0).wf = true) (w1 : (Lit.int .u32 a1).wf = true) :
    Calls Try.prog 8 #[.int .u32 a0, .int .u32 a1] w fun e w' => e = .returned (.bool true) ∧ Below w.heap.size w w' := by
  obtain ⟨k, h⟩ := P a0 a1 w0 w1
  refine (whetstonelaw01_WordShifts.calls k a0 a1 true w h).mono ?_
  rintro e w' ⟨rfl, hd⟩
  exact ⟨rfl, hd.below⟩

end Go.Proofs.Ytebgdkhfeegcfaa.Q
