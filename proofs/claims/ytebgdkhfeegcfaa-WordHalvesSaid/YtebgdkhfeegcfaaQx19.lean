-- Written by this session's own driver (wip/tools/ownprint.py) over the kit's print: walks of the translated Go, each function once.
import Derived.Test.YtebgdkhfeegcfaaQx0
import Derived.Test.YtebgdkhfeegcfaaQx1
import Derived.Test.YtebgdkhfeegcfaaQx2
import Derived.Test.YtebgdkhfeegcfaaQx5
namespace Go.Proofs.Ytebgdkhfeegcfaa.Q
open Go.RowKit Go.Proofs.YtebgdkhfeegcfaaW.PrintWords Go.Proofs.YtebgdkhfeegcfaaW.PrintLast Go.Proofs.YtebgdkhfeegcfaaW.PrintMore
attribute [local go_sem] max2_int min2_int max_two min_two max_three min_three max_four min_four   -- for this text's walks alone
attribute [local go_sem] imax_u32 imax_u8 isg_u32 isg_u8
set_option linter.unusedVariables false
set_option linter.unusedSimpArgs false

/-! ### whetstonelaw01_WordHalves: function 12 -/
def whetstonelaw01_WordHalves.f (k : Nat) (a0 : Int) (a1 : Int) (a2 : Int) : Option (Bool) := (word_Field.f k a0 0 (wrap64 (1 + (Int.tmod (Go.bits .and .i64 a2 65535) 31)))).bind fun t261 => ((word_Field.f k a0 (wrap64 (1 + (Int.tmod (Go.bits .and .i64 a2 65535) 31))) (wrap64 (32 - (wrap64 (1 + (Int.tmod (Go.bits .and .i64 a2 65535) 31)))))).bind fun t262 => ((word_Put.f k a1 0 (wrap64 (1 + (Int.tmod (Go.bits .and .i64 a2 65535) 31))) t261).bind fun t263 => ((word_Put.f k t263 (wrap64 (1 + (Int.tmod (Go.bits .and .i64 a2 65535) 31))) (wrap64 (32 - (wrap64 (1 + (Int.tmod (Go.bits .and .i64 a2 65535) 31))))) t262).bind fun t264 => (if t264 = a0 then (if 0 ≤ (wrap64 (1 + (Int.tmod (Go.bits .and .i64 a2 65535) 31))) then (if (Go.bits .or .u32 (shl .u32 t262 (wrap64 (1 + (Int.tmod (Go.bits .and .i64 a2 65535) 31)))) t261) = a0 then (if t261 < (shl .u32 1 (wrap64 (1 + (Int.tmod (Go.bits .and .i64 a2 65535) 31)))) then ((whetstonelaw01_fixed.f k).bind fun t265 => (some t265)) else (some false)) else (some false)) else (none)) else (some false)))))
theorem whetstonelaw01_WordHalves.mono : ∀ a0 a1 a2 k, LeO (whetstonelaw01_WordHalves.f k a0 a1 a2) (whetstonelaw01_WordHalves.f (k + 1) a0 a1 a2) := by
  intro a0 a1 a2 k
  unfold whetstonelaw01_WordHalves.f
  repeat' first
      | (with_reducible exact whetstonelaw01_fixed.mono _)
      | (with_reducible exact word_Field.mono _ _ _ _)
      | (with_reducible exact word_Put.mono _ _ _ _ _)
      | (with_reducible exact LeO.refl _)
      | (with_reducible exact LeO.none _)
      | (with_reducible refine LeO.ite ?_ ?_)
      | (with_reducible refine LeO.bind ?_ (fun _ => ?_))
      | exact whetstonelaw01_fixed.mono _
      | exact word_Field.mono _ _ _ _
      | exact word_Put.mono _ _ _ _ _
      | exact LeO.none _
      | refine LeO.ite ?_ ?_
      | refine LeO.bind ?_ (fun _ => ?_)
set_option maxHeartbeats 8000000 in
set_option maxRecDepth 100000 in
theorem whetstonelaw01_WordHalves.calls (k : Nat) (a0 : Int) (a1 : Int) (a2 : Int) (r : Bool) (w : World) (h : whetstonelaw01_WordHalves.f k a0 a1 a2 = some r) :
    Calls Try.prog 12 #[.int .u32 a0, .int .u32 a1, .int .i64 a2] w fun e w' => e = .returned (.bool r) ∧ Drawn0 w w' := by
  have H : ((word_Field.f k a0 0 (wrap64 (1 + (Int.tmod (Go.bits .and .i64 a2 65535) 31)))).bind fun t261 => ((word_Field.f k a0 (wrap64 (1 + (Int.tmod (Go.bits .and .i64 a2 65535) 31))) (wrap64 (32 - (wrap64 (1 + (Int.tmod (Go.bits .and .i64 a2 65535) 31)))))).bind fun t262 => ((word_Put.f k a1 0 (wrap64 (1 + (Int.tmod (Go.bits .and .i64 a2 65535) 31))) t261).bind fun t263 => ((word_Put.f k t263 (wrap64 (1 + (Int.tmod (Go.bits .and .i64 a2 65535) 31))) (wrap64 (32 - (wrap64 (1 + (Int.tmod (Go.bits .and .i64 a2 65535) 31))))) t262).bind fun t264 => (if t264 = a0 then (if 0 ≤ (wrap64 (1 + (Int.tmod (Go.bits .and .i64 a2 65535) 31))) then (if (Go.bits .or .u32 (shl .u32 t262 (wrap64 (1 + (Int.tmod (Go.bits .and .i64 a2 65535) 31)))) t261) = a0 then (if t261 < (shl .u32 1 (wrap64 (1 + (Int.tmod (Go.bits .and .i64 a2 65535) 31)))) then ((whetstonelaw01_fixed.f k).bind fun t265 => (some t265)) else (some false)) else (some false)) else (none)) else (some false)))))) = some r := h
  clear h
  replace H := Option.bind_eq_some_iff.mp H
  obtain ⟨t261, A40, H⟩ := H
  replace H : ((word_Field.f k a0 (wrap64 (1 + (Int.tmod (Go.bits .and .i64 a2 65535) 31))) (wrap64 (32 - (wrap64 (1 + (Int.tmod (Go.bits .and .i64 a2 65535) 31)))))).bind fun t262 => ((word_Put.f k a1 0 (wrap64 (1 + (Int.tmod (Go.bits .and .i64 a2 65535) 31))) t261).bind fun t263 => ((word_Put.f k t263 (wrap64 (1 + (Int.tmod (Go.bits .and .i64 a2 65535) 31))) (wrap64 (32 - (wrap64 (1 + (Int.tmod (Go.bits .and .i64 a2 65535) 31))))) t262).bind fun t264 => (if t264 = a0 then (if 0 ≤ (wrap64 (1 + (Int.tmod (Go.bits .and .i64 a2 65535) 31))) then (if (Go.bits .or .u32 (shl .u32 t262 (wrap64 (1 + (Int.tmod (Go.bits .and .i64 a2 65535) 31)))) t261) = a0 then (if t261 < (shl .u32 1 (wrap64 (1 + (Int.tmod (Go.bits .and .i64 a2 65535) 31)))) then ((whetstonelaw01_fixed.f k).bind fun t265 => (some t265)) else (some false)) else (some false)) else (none)) else (some false))))) = some r := H
  have A4 := Aside0.mk A40
  clear A40
  replace H := Option.bind_eq_some_iff.mp H
  obtain ⟨t262, A50, H⟩ := H
  replace H : ((word_Put.f k a1 0 (wrap64 (1 + (Int.tmod (Go.bits .and .i64 a2 65535) 31))) t261).bind fun t263 => ((word_Put.f k t263 (wrap64 (1 + (Int.tmod (Go.bits .and .i64 a2 65535) 31))) (wrap64 (32 - (wrap64 (1 + (Int.tmod (Go.bits .and .i64 a2 65535) 31))))) t262).bind fun t264 => (if t264 = a0 then (if 0 ≤ (wrap64 (1 + (Int.tmod (Go.bits .and .i64 a2 65535) 31))) then (if (Go.bits .or .u32 (shl .u32 t262 (wrap64 (1 + (Int.tmod (Go.bits .and .i64 a2 65535) 31)))) t261) = a0 then (if t261 < (shl .u32 1 (wrap64 (1 + (Int.tmod (Go.bits .and .i64 a2 65535) 31)))) then ((whetstonelaw01_fixed.f k).bind fun t265 => (some t265)) else (some false)) else (some false)) else (none)) else (some false)))) = some r := H
  have A5 := Aside0.mk A50
  clear A50
  replace H := Option.bind_eq_some_iff.mp H
  obtain ⟨t263, A60, H⟩ := H
  replace H : ((word_Put.f k t263 (wrap64 (1 + (Int.tmod (Go.bits .and .i64 a2 65535) 31))) (wrap64 (32 - (wrap64 (1 + (Int.tmod (Go.bits .and .i64 a2 65535) 31))))) t262).bind fun t264 => (if t264 = a0 then (if 0 ≤ (wrap64 (1 + (Int.tmod (Go.bits .and .i64 a2 65535) 31))) then (if (Go.bits .or .u32 (shl .u32 t262 (wrap64 (1 + (Int.tmod (Go.bits .and .i64 a2 65535) 31)))) t261) = a0 then (if t261 < (shl .u32 1 (wrap64 (1 + (Int.tmod (Go.bits .and .i64 a2 65535) 31)))) then ((whetstonelaw01_fixed.f k).bind fun t265 => (some t265)) else (some false)) else (some false)) else (none)) else (some false))) = some r := H
  have A6 := Aside0.mk A60
  clear A60
  replace H := Option.bind_eq_some_iff.mp H
  obtain ⟨t264, A70, H⟩ := H
  replace H : (if t264 = a0 then (if 0 ≤ (wrap64 (1 + (Int.tmod (Go.bits .and .i64 a2 65535) 31))) then (if (Go.bits .or .u32 (shl .u32 t262 (wrap64 (1 + (Int.tmod (Go.bits .and .i64 a2 65535) 31)))) t261) = a0 then (if t261 < (shl .u32 1 (wrap64 (1 + (Int.tmod (Go.bits .and .i64 a2 65535) 31)))) then ((whetstonelaw01_fixed.f k).bind fun t265 => (some t265)) else (some false)) else (some false)) else (none)) else (some false)) = some r := H
  have A7 := Aside0.mk A70
  clear A70
  by_cases c8 : t264 = a0
  · rw [if_pos c8] at H
    have c8b0 : (t264 == a0) = true := beq_iff_eq.mpr c8
    have c8b1 : (t264 != a0) = false := bne_eq_false_iff_eq.mpr c8
    clear c8
    obtain ⟨ji9, hji9⟩ : ∃ j_ : Int, (wrap64 (1 + (Int.tmod (Go.bits .and .i64 a2 65535) 31))) = j_ := ⟨_, rfl⟩
    replace H : (if 0 ≤ (ji9) then (if (Go.bits .or .u32 (shl .u32 t262 (ji9)) t261) = a0 then (if t261 < (shl .u32 1 (ji9)) then ((whetstonelaw01_fixed.f k).bind fun t265 => (some t265)) else (some false)) else (some false)) else (none)) = some r := by first | (rw [hji9] at H; exact H) | (simp only [hji9] at H ⊢; exact H)
    (try rw [hji9] at A4)
    (try rw [hji9] at A5)
    (try rw [hji9] at A6)
    (try rw [hji9] at A7)
    have hji9w : (IntKind.i64.wrap (1 + (Int.tmod (Go.bits .and .i64 a2 65535) 31))) = ji9 := (i64_w _).trans hji9
    by_cases c10 : 0 ≤ (ji9)
    · rw [if_pos c10] at H
      have c10b0 := eq_true c10
      have c10b1 : decide (0 ≤ (ji9)) = true := decide_eq_true c10
      clear c10
      obtain ⟨ji11, hji11⟩ : ∃ j_ : Int, (shl .u32 t262 (ji9)) = j_ := ⟨_, rfl⟩
      replace H : (if (Go.bits .or .u32 (ji11) t261) = a0 then (if t261 < (shl .u32 1 (ji9)) then ((whetstonelaw01_fixed.f k).bind fun t265 => (some t265)) else (some false)) else (some false)) = some r := by first | (rw [hji11] at H; exact H) | (simp only [hji11] at H ⊢; exact H)
      (try rw [hji11] at A4)
      (try rw [hji11] at A5)
      (try rw [hji11] at A6)
      (try rw [hji11] at A7)
      have hji11_ : (IntKind.u32.wrap (t262 * 2 ^ min (ji9).toNat 32)) = ji11 := hji11
      have hji11z : (ji9) ≤ 32 → (IntKind.u32.wrap (t262 * 2 ^ (ji9).toNat)) = ji11 := shl_small hji11
      by_cases c12 : (Go.bits .or .u32 (ji11) t261) = a0
      · rw [if_pos c12] at H
        have c12b0 : ((Go.bits .or .u32 (ji11) t261) == a0) = true := beq_iff_eq.mpr c12
        have c12b1 : ((Go.bits .or .u32 (ji11) t261) != a0) = false := bne_eq_false_iff_eq.mpr c12
        clear c12
        have c13b0 := eq_true (of_decide_eq_true (by first | (with_reducible assumption) | assumption) : 0 ≤ (ji9))
        obtain ⟨ji14, hji14⟩ : ∃ j_ : Int, (shl .u32 1 (ji9)) = j_ := ⟨_, rfl⟩
        replace H : (if t261 < (ji14) then ((whetstonelaw01_fixed.f k).bind fun t265 => (some t265)) else (some false)) = some r := by first | (rw [hji14] at H; exact H) | (simp only [hji14] at H ⊢; exact H)
        (try rw [hji14] at A4)
        (try rw [hji14] at A5)
        (try rw [hji14] at A6)
        (try rw [hji14] at A7)
        have hji14_ : (IntKind.u32.wrap (1 * 2 ^ min (ji9).toNat 32)) = ji14 := hji14
        have hji14z : (ji9) ≤ 32 → (IntKind.u32.wrap (1 * 2 ^ (ji9).toNat)) = ji14 := shl_small hji14
        have hji14u : (IntKind.u32.wrap (2 ^ min (ji9).toNat 32)) = ji14 := by have h_ := hji14_; rw [Int.one_mul] at h_; exact h_
        have hji14v : (ji9) ≤ 32 → (IntKind.u32.wrap (2 ^ (ji9).toNat)) = ji14 := fun hle_ => by have h_ := hji14z hle_; rw [Int.one_mul] at h_; exact h_
        by_cases c15 : t261 < (ji14)
        · rw [if_pos c15] at H
          have c15b0 : decide (t261 < (ji14)) = true := decide_eq_true c15
          clear c15
          replace H := Option.bind_eq_some_iff.mp H
          obtain ⟨t265, A160, H⟩ := H
          replace H : (some t265) = some r := H
          have A16 := Aside0.mk A160
          clear A160
          obtain rfl := Option.some.inj H
          go_enter Try.func12, Try.ntmps12
          go_wp2_with (first | ((with_reducible refine gate_callee (f := 14) rfl ?_); refine goesL_ (some 17) rfl rfl Try.func14 (by kernel_rfl) rfl #[.int .u32 a0, .int .i64 0, .int .i64 ji9] rfl (by (try simp only [List.map_toArray, List.map_cons, List.map_nil]); first | done | (simp only [hji9]; rfl) | rfl | (simp only [List.length_drop, List.length_take]; rfl)) ?_; (with_reducible refine (word_Field.calls k a0 0 ji9 t261 _ A4.out).mono ?_); rintro e w' ⟨rfl, ⟨nd, rfl⟩⟩; refine ⟨_, rfl, ?_⟩) | ((with_reducible refine gate_callee (f := 14) rfl ?_); refine goesL_ (some 22) rfl rfl Try.func14 (by kernel_rfl) rfl #[.int .u32 a0, .int .i64 ji9, .int .i64 (wrap64 (32 - (ji9)))] rfl (by (try simp only [List.map_toArray, List.map_cons, List.map_nil]); first | done | (simp only [hji9]; rfl) | rfl | (simp only [List.length_drop, List.length_take]; rfl)) ?_; (with_reducible refine (word_Field.calls k a0 ji9 (wrap64 (32 - (ji9))) t262 _ A5.out).mono ?_); rintro e w' ⟨rfl, ⟨nd, rfl⟩⟩; refine ⟨_, rfl, ?_⟩) | ((with_reducible refine gate_callee (f := 18) rfl ?_); refine goesL_ (some 26) rfl rfl Try.func18 (by kernel_rfl) rfl #[.int .u32 a1, .int .i64 0, .int .i64 ji9, .int .u32 t261] rfl (by (try simp only [List.map_toArray, List.map_cons, List.map_nil]); first | done | (simp only [hji9]; rfl) | rfl | (simp only [List.length_drop, List.length_take]; rfl)) ?_; (with_reducible refine (word_Put.calls k a1 0 ji9 t261 t263 _ A6.out).mono ?_); rintro e w' ⟨rfl, ⟨nd, rfl⟩⟩; refine ⟨_, rfl, ?_⟩) | ((with_reducible refine gate_callee (f := 18) rfl ?_); refine goesL_ (some 31) rfl rfl Try.func18 (by kernel_rfl) rfl #[.int .u32 t263, .int .i64 ji9, .int .i64 (wrap64 (32 - (ji9))), .int .u32 t262] rfl (by (try simp only [List.map_toArray, List.map_cons, List.map_nil]); first | done | (simp only [hji9]; rfl) | rfl | (simp only [List.length_drop, List.length_take]; rfl)) ?_; (with_reducible refine (word_Put.calls k t263 ji9 (wrap64 (32 - (ji9))) t262 t264 _ A7.out).mono ?_); rintro e w' ⟨rfl, ⟨nd, rfl⟩⟩; refine ⟨_, rfl, ?_⟩) | (go_at_call 13; (with_reducible refine (whetstonelaw01_fixed.calls k  t265 _ A16.out).mono ?_); rintro e w' ⟨rfl, ⟨nd, rfl⟩⟩))
          go_ret
          exact ⟨by first | rfl | (simp; done) | (simp only [← hji9, ← hji11, ← hji14] <;> (first | rfl | simp)) | (simp [*]; done), by repeat (first | exact Drawn0.refl _ | apply Drawn0.step)⟩
        · rw [if_neg c15] at H
          have c15b0 : decide (t261 < (ji14)) = false := decide_eq_false c15
          clear c15
          obtain rfl := Option.some.inj H
          go_enter Try.func12, Try.ntmps12
          go_wp2_with (first | ((with_reducible refine gate_callee (f := 14) rfl ?_); refine goesL_ (some 17) rfl rfl Try.func14 (by kernel_rfl) rfl #[.int .u32 a0, .int .i64 0, .int .i64 ji9] rfl (by (try simp only [List.map_toArray, List.map_cons, List.map_nil]); first | done | (simp only [hji9]; rfl) | rfl | (simp only [List.length_drop, List.length_take]; rfl)) ?_; (with_reducible refine (word_Field.calls k a0 0 ji9 t261 _ A4.out).mono ?_); rintro e w' ⟨rfl, ⟨nd, rfl⟩⟩; refine ⟨_, rfl, ?_⟩) | ((with_reducible refine gate_callee (f := 14) rfl ?_); refine goesL_ (some 22) rfl rfl Try.func14 (by kernel_rfl) rfl #[.int .u32 a0, .int .i64 ji9, .int .i64 (wrap64 (32 - (ji9)))] rfl (by (try simp only [List.map_toArray, List.map_cons, List.map_nil]); first | done | (simp only [hji9]; rfl) | rfl | (simp only [List.length_drop, List.length_take]; rfl)) ?_; (with_reducible refine (word_Field.calls k a0 ji9 (wrap64 (32 - (ji9))) t262 _ A5.out).mono ?_); rintro e w' ⟨rfl, ⟨nd, rfl⟩⟩; refine ⟨_, rfl, ?_⟩) | ((with_reducible refine gate_callee (f := 18) rfl ?_); refine goesL_ (some 26) rfl rfl Try.func18 (by kernel_rfl) rfl #[.int .u32 a1, .int .i64 0, .int .i64 ji9, .int .u32 t261] rfl (by (try simp only [List.map_toArray, List.map_cons, List.map_nil]); first | done | (simp only [hji9]; rfl) | rfl | (simp only [List.length_drop, List.length_take]; rfl)) ?_; (with_reducible refine (word_Put.calls k a1 0 ji9 t261 t263 _ A6.out).mono ?_); rintro e w' ⟨rfl, ⟨nd, rfl⟩⟩; refine ⟨_, rfl, ?_⟩) | ((with_reducible refine gate_callee (f := 18) rfl ?_); refine goesL_ (some 31) rfl rfl Try.func18 (by kernel_rfl) rfl #[.int .u32 t263, .int .i64 ji9, .int .i64 (wrap64 (32 - (ji9))), .int .u32 t262] rfl (by (try simp only [List.map_toArray, List.map_cons, List.map_nil]); first | done | (simp only [hji9]; rfl) | rfl | (simp only [List.length_drop, List.length_take]; rfl)) ?_; (with_reducible refine (word_Put.calls k t263 ji9 (wrap64 (32 - (ji9))) t262 t264 _ A7.out).mono ?_); rintro e w' ⟨rfl, ⟨nd, rfl⟩⟩; refine ⟨_, rfl, ?_⟩))
          go_ret
          exact ⟨by first | rfl | (simp; done) | (simp only [← hji9, ← hji11, ← hji14] <;> (first | rfl | simp)) | (simp [*]; done), by repeat (first | exact Drawn0.refl _ | apply Drawn0.step)⟩
      · rw [if_neg c12] at H
        have c12b0 : ((Go.bits .or .u32 (ji11) t261) == a0) = false := beq_eq_false_iff_ne.mpr c12
        have c12b1 : ((Go.bits .or .u32 (ji11) t261) != a0) = true := bne_iff_ne.mpr c12
        obtain rfl := Option.some.inj H
        go_enter Try.func12, Try.ntmps12
        go_wp2_with (first | ((with_reducible refine gate_callee (f := 14) rfl ?_); refine goesL_ (some 17) rfl rfl Try.func14 (by kernel_rfl) rfl #[.int .u32 a0, .int .i64 0, .int .i64 ji9] rfl (by (try simp only [List.map_toArray, List.map_cons, List.map_nil]); first | done | (simp only [hji9]; rfl) | rfl | (simp only [List.length_drop, List.length_take]; rfl)) ?_; (with_reducible refine (word_Field.calls k a0 0 ji9 t261 _ A4.out).mono ?_); rintro e w' ⟨rfl, ⟨nd, rfl⟩⟩; refine ⟨_, rfl, ?_⟩) | ((with_reducible refine gate_callee (f := 14) rfl ?_); refine goesL_ (some 22) rfl rfl Try.func14 (by kernel_rfl) rfl #[.int .u32 a0, .int .i64 ji9, .int .i64 (wrap64 (32 - (ji9)))] rfl (by (try simp only [List.map_toArray, List.map_cons, List.map_nil]); first | done | (simp only [hji9]; rfl) | rfl | (simp only [List.length_drop, List.length_take]; rfl)) ?_; (with_reducible refine (word_Field.calls k a0 ji9 (wrap64 (32 - (ji9))) t262 _ A5.out).mono ?_); rintro e w' ⟨rfl, ⟨nd, rfl⟩⟩; refine ⟨_, rfl, ?_⟩) | ((with_reducible refine gate_callee (f := 18) rfl ?_); refine goesL_ (some 26) rfl rfl Try.func18 (by kernel_rfl) rfl #[.int .u32 a1, .int .i64 0, .int .i64 ji9, .int .u32 t261] rfl (by (try simp only [List.map_toArray, List.map_cons, List.map_nil]); first | done | (simp only [hji9]; rfl) | rfl | (simp only [List.length_drop, List.length_take]; rfl)) ?_; (with_reducible refine (word_Put.calls k a1 0 ji9 t261 t263 _ A6.out).mono ?_); rintro e w' ⟨rfl, ⟨nd, rfl⟩⟩; refine ⟨_, rfl, ?_⟩) | ((with_reducible refine gate_callee (f := 18) rfl ?_); refine goesL_ (some 31) rfl rfl Try.func18 (by kernel_rfl) rfl #[.int .u32 t263, .int .i64 ji9, .int .i64 (wrap64 (32 - (ji9))), .int .u32 t262] rfl (by (try simp only [List.map_toArray, List.map_cons, List.map_nil]); first | done | (simp only [hji9]; rfl) | rfl | (simp only [List.length_drop, List.length_take]; rfl)) ?_; (with_reducible refine (word_Put.calls k t263 ji9 (wrap64 (32 - (ji9))) t262 t264 _ A7.out).mono ?_); rintro e w' ⟨rfl, ⟨nd, rfl⟩⟩; refine ⟨_, rfl, ?_⟩))
        go_ret
        exact ⟨by first | rfl | (simp; done) | (simp only [← hji9, ← hji11] <;> (first | rfl | simp)) | (simp [*]; done), by repeat (first | exact Drawn0.refl _ | apply Drawn0.step)⟩
    · rw [if_neg c10] at H
      exact absurd H (by simp)
  · rw [if_neg c8] at H
    have c8b0 : (t264 == a0) = false := beq_eq_false_iff_ne.mpr c8
    have c8b1 : (t264 != a0) = true := bne_iff_ne.mpr c8
    obtain rfl := Option.some.inj H
    go_enter Try.func12, Try.ntmps12
    go_wp2_with (first | ((with_reducible refine gate_callee (f := 14) rfl ?_); refine goesL_ (some 17) rfl rfl Try.func14 (by kernel_rfl) rfl #[.int .u32 a0, .int .i64 0, .int .i64 (wrap64 (1 + (Int.tmod (Go.bits .and .i64 a2 65535) 31)))] rfl (by (try simp only [List.map_toArray, List.map_cons, List.map_nil]); first | done | rfl | (simp only [List.length_drop, List.length_take]; rfl)) ?_; (with_reducible refine (word_Field.calls k a0 0 (wrap64 (1 + (Int.tmod (Go.bits .and .i64 a2 65535) 31))) t261 _ A4.out).mono ?_); rintro e w' ⟨rfl, ⟨nd, rfl⟩⟩; refine ⟨_, rfl, ?_⟩) | ((with_reducible refine gate_callee (f := 14) rfl ?_); refine goesL_ (some 22) rfl rfl Try.func14 (by kernel_rfl) rfl #[.int .u32 a0, .int .i64 (wrap64 (1 + (Int.tmod (Go.bits .and .i64 a2 65535) 31))), .int .i64 (wrap64 (32 - (wrap64 (1 + (Int.tmod (Go.bits .and .i64 a2 65535) 31)))))] rfl (by (try simp only [List.map_toArray, List.map_cons, List.map_nil]); first | done | rfl | (simp only [List.length_drop, List.length_take]; rfl)) ?_; (with_reducible refine (word_Field.calls k a0 (wrap64 (1 + (Int.tmod (Go.bits .and .i64 a2 65535) 31))) (wrap64 (32 - (wrap64 (1 + (Int.tmod (Go.bits .and .i64 a2 65535) 31))))) t262 _ A5.out).mono ?_); rintro e w' ⟨rfl, ⟨nd, rfl⟩⟩; refine ⟨_, rfl, ?_⟩) | ((with_reducible refine gate_callee (f := 18) rfl ?_); refine goesL_ (some 26) rfl rfl Try.func18 (by kernel_rfl) rfl #[.int .u32 a1, .int .i64 0, .int .i64 (wrap64 (1 + (Int.tmod (Go.bits .and .i64 a2 65535) 31))), .int .u32 t261] rfl (by (try simp only [List.map_toArray, List.map_cons, List.map_nil]); first | done | rfl | (simp only [List.length_drop, List.length_take]; rfl)) ?_; (with_reducible refine (word_Put.calls k a1 0 (wrap64 (1 + (Int.tmod (Go.bits .and .i64 a2 65535) 31))) t261 t263 _ A6.out).mono ?_); rintro e w' ⟨rfl, ⟨nd, rfl⟩⟩; refine ⟨_, rfl, ?_⟩) | ((with_reducible refine gate_callee (f := 18) rfl ?_); refine goesL_ (some 31) rfl rfl Try.func18 (by kernel_rfl) rfl #[.int .u32 t263, .int .i64 (wrap64 (1 + (Int.tmod (Go.bits .and .i64 a2 65535) 31))), .int .i64 (wrap64 (32 - (wrap64 (1 + (Int.tmod (Go.bits .and .i64 a2 65535) 31))))), .int .u32 t262] rfl (by (try simp only [List.map_toArray, List.map_cons, List.map_nil]); first | done | rfl | (simp only [List.length_drop, List.length_take]; rfl)) ?_; (with_reducible refine (word_Put.calls k t263 (wrap64 (1 + (Int.tmod (Go.bits .and .i64 a2 65535) 31))) (wrap64 (32 - (wrap64 (1 + (Int.tmod (Go.bits .and .i64 a2 65535) 31))))) t262 t264 _ A7.out).mono ?_); rintro e w' ⟨rfl, ⟨nd, rfl⟩⟩; refine ⟨_, rfl, ?_⟩))
    go_ret
    exact ⟨by first | rfl | (simp; done) | (simp [*]; done), by repeat (first | exact Drawn0.refl _ | apply Drawn0.step)⟩

/-- THE ONE PURE STATEMENT of whetstonelaw01_WordHalves: yours. -/
def whetstonelaw01_WordHalves.Pure : Prop := ∀ (a0 : Int) (a1 : Int) (a2 : Int), (Lit.int .u32 a0).wf = true → (Lit.int .u32 a1).wf = true → (Lit.int .i64 a2).wf = true → ∃ k, whetstonelaw01_WordHalves.f k a0 a1 a2 = some true
theorem whetstonelaw01_WordHalves.walk (P : whetstonelaw01_WordHalves.Pure) (a0 : Int) (a1 : Int) (a2 : Int) (w : World) (w0 : (Lit.int .u32 a0).wf = true) (w1 : (Lit.int .u32 a1).wf = true) (w2 : (Lit.int .i64 a2).wf = true) :
    Calls Try.prog 12 #[.int .u32 a0, .int .u32 a1, .int .i64 a2] w fun e w' => e = .returned (.bool true) ∧ Below w.heap.size w w' := by
  obtain ⟨k, h⟩ := P a0 a1 a2 w0 w1 w2
  refine (whetstonelaw01_WordHalves.calls k a0 a1 a2 true w h).mono ?_
  rintro e w' ⟨rfl, hd⟩
  exact ⟨rfl, hd.below⟩

end Go.Proofs.Ytebgdkhfeegcfaa.Q
