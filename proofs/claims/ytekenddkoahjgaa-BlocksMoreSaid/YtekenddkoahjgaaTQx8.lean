import Derived.Test.YtekenddkoahjgaaTQx0
import Derived.Test.YtekenddkoahjgaaTQx5
namespace Go.Proofs.Ytekenddkoahjgaa.Q
open Go.RowKit Go.Proofs.YtekenddkoahjgaaW.PrintWords Go.Proofs.YtekenddkoahjgaaW.PrintLast Go.Proofs.YtekenddkoahjgaaW.PrintMore
attribute [local go_sem] max2_int min2_int max_two min_two max_three min_three max_four min_four   -- for this text's walks alone
attribute [local go_sem] imax_u32 imax_u8 isg_u32 isg_u8
set_option linter.unusedVariables false
set_option linter.unusedSimpArgs false
def word_Sign.j0 : Nat → Int → Int → Bool → Option (Int)
 | 0, _, _, _ => none
 | k + 1, x0, x1, x10 => if x10 = true then (some x0) else ((word_mask.f k x1).bind fun t125 => (if 0 ≤ (wrap64 (x1 - 1)) then (if (shr .u32 (Go.bits .and .u32 x0 t125) (wrap64 (x1 - 1))) = 1 then ((word_mask.f k x1).bind fun t126 => (some (Go.bits .or .u32 (Go.bits .and .u32 x0 t125) (Go.bits .xor .u32 4294967295 t126)))) else (some (Go.bits .and .u32 x0 t125))) else (none)))
def word_Sign.f (k : Nat) (a0 : Int) (a1 : Int) : Option (Int) := if a1 < 1 then (word_Sign.j0 k a0 a1 true) else (word_Sign.j0 k a0 a1 (decide (a1 ≥ 32)))
set_option maxHeartbeats 8000000 in
set_option maxRecDepth 100000 in
theorem word_Sign.calls (k : Nat) (a0 : Int) (a1 : Int) (r : Int) (w : World) (h : word_Sign.f k a0 a1 = some r) :
  Calls Try.prog 98 #[.int .u32 a0, .int .i64 a1] w fun e w' => e = .returned (.int .u32 r) ∧ Drawn0 w w' := by
 have H : (if a1 < 1 then (word_Sign.j0 k a0 a1 true) else (word_Sign.j0 k a0 a1 (decide (a1 ≥ 32)))) = some r := h
 clear h
 have HC3 := Aside0.mk H
 clear H
 go_enter Try.func98, Try.ntmps98
 go_upto_region 1 with (fail)
 go_cut [10] (fun v10 wc => ∃ (kq : Nat) (x10_2 : Bool), v10 = .bool x10_2 ∧ Aside0 (word_Sign.j0 kq a0 a1 x10_2 = some r) ∧ Aside0 (kq ≤ k) ∧ Drawn0 w wc)
 case first =>
  have H := HC3.out
  clear HC3
  by_cases c4 : a1 < 1
  ·rw [if_pos c4] at H
   have c4b0 : decide (a1 < 1) = true := decide_eq_true c4
   clear c4
   (first | rw [c4b0] | (simp only [i64_w, i32_w]; rw [c4b0]) | skip)
   have H' := Aside0.mk H
   clear H
   go_wp2
   go_meet
   case rel => exact ⟨_, (true), (by first | rfl | (simp; done) | (simp [*]; done)), H', ⟨by first | omega | exact Nat.le_refl _⟩, by repeat (first | exact Drawn0.refl _ | apply Drawn0.step)⟩
  ·rw [if_neg c4] at H
   have c4b0 : decide (a1 < 1) = false := decide_eq_false c4
   clear c4
   (first | rw [c4b0] | (simp only [i64_w, i32_w]; rw [c4b0]) | skip)
   have H' := Aside0.mk H
   clear H
   go_wp2
   go_meet
   case rel => exact ⟨_, (decide (a1 ≥ 32)), (by first | rfl | (simp; done) | (simp [*]; done)), H', ⟨by first | omega | exact Nat.le_refl _⟩, by repeat (first | exact Drawn0.refl _ | apply Drawn0.step)⟩
 case rest =>
  clear HC3
  try clear p2
  try clear c4
  try clear c4b0
  obtain ⟨kq, x10_2, rfl, HA, HJ2, ⟨mc2, rfl⟩⟩ := hcut
  cases kq with
  | zero => exact absurd HA.out (by simp [word_Sign.j0])
  | succ kj2 =>
   have H := HA.out
   clear HA
   simp only [word_Sign.j0] at H
   by_cases c5 : x10_2 = true
   ·subst c5
    have H1 : (some a0) = some r := by rw [if_pos rfl] at H; exact H
    clear H
    have H := H1
    clear H1
    obtain rfl := Option.some.inj H
    go_wp2
    go_ret
    exact ⟨by first | rfl | (simp; done) | (simp [*]; done), by repeat (first | exact Drawn0.refl _ | apply Drawn0.step)⟩
   ·replace c5 := Bool.eq_false_iff.mpr c5
    subst c5
    have H1 : ((word_mask.f kj2 a1).bind fun t125 => (if 0 ≤ (wrap64 (a1 - 1)) then (if (shr .u32 (Go.bits .and .u32 a0 t125) (wrap64 (a1 - 1))) = 1 then ((word_mask.f kj2 a1).bind fun t126 => (some (Go.bits .or .u32 (Go.bits .and .u32 a0 t125) (Go.bits .xor .u32 4294967295 t126)))) else (some (Go.bits .and .u32 a0 t125))) else (none))) = some r := by rw [if_neg (show ¬ (false = true) by decide)] at H; exact H
    clear H
    have H := H1
    clear H1
    replace H := Option.bind_eq_some_iff.mp H
    obtain ⟨t125, A60, H⟩ := H
    replace H : (if 0 ≤ (wrap64 (a1 - 1)) then (if (shr .u32 (Go.bits .and .u32 a0 t125) (wrap64 (a1 - 1))) = 1 then ((word_mask.f kj2 a1).bind fun t126 => (some (Go.bits .or .u32 (Go.bits .and .u32 a0 t125) (Go.bits .xor .u32 4294967295 t126)))) else (some (Go.bits .and .u32 a0 t125))) else (none)) = some r := H
    have A6 := Aside0.mk A60
    clear A60
    obtain ⟨ji7, hji7⟩ : ∃ j_ : Int, (wrap64 (a1 - 1)) = j_ := ⟨_, rfl⟩
    replace H : (if 0 ≤ (ji7) then (if (shr .u32 (Go.bits .and .u32 a0 t125) (ji7)) = 1 then ((word_mask.f kj2 a1).bind fun t126 => (some (Go.bits .or .u32 (Go.bits .and .u32 a0 t125) (Go.bits .xor .u32 4294967295 t126)))) else (some (Go.bits .and .u32 a0 t125))) else (none)) = some r := by first | (rw [hji7] at H; exact H) | (simp only [hji7] at H ⊢; exact H)
    (try rw [hji7] at A6)
    have hji7w : (IntKind.i64.wrap (a1 - 1)) = ji7 := (i64_w _).trans hji7
    by_cases c8 : 0 ≤ (ji7)
    ·rw [if_pos c8] at H
     have c8b0 := eq_true c8
     have c8b1 : decide (0 ≤ (ji7)) = true := decide_eq_true c8
     clear c8
     obtain ⟨ji9, hji9⟩ : ∃ j_ : Int, (shr .u32 (Go.bits .and .u32 a0 t125) (ji7)) = j_ := ⟨_, rfl⟩
     replace H : (if (ji9) = 1 then ((word_mask.f kj2 a1).bind fun t126 => (some (Go.bits .or .u32 (Go.bits .and .u32 a0 t125) (Go.bits .xor .u32 4294967295 t126)))) else (some (Go.bits .and .u32 a0 t125))) = some r := by first | (rw [hji9] at H; exact H) | (simp only [hji9] at H ⊢; exact H)
     (try rw [hji9] at A6)
     have hji9_ : ((Go.bits .and .u32 a0 t125) / 2 ^ min (ji7).toNat 32) = ji9 := hji9
     have hji9z : (ji7) ≤ 32 → ((Go.bits .and .u32 a0 t125) / 2 ^ (ji7).toNat) = ji9 := shr_small hji9
     by_cases c10 : (ji9) = 1
     ·rw [if_pos c10] at H
      have c10b0 : ((ji9) == 1) = true := beq_iff_eq.mpr c10
      have c10b1 : ((ji9) != 1) = false := bne_eq_false_iff_eq.mpr c10
      clear c10
      replace H := Option.bind_eq_some_iff.mp H
      obtain ⟨t126, A110, H⟩ := H
      replace H : (some (Go.bits .or .u32 (Go.bits .and .u32 a0 t125) (Go.bits .xor .u32 4294967295 t126))) = some r := H
      have A11 := Aside0.mk A110
      clear A110
      obtain rfl := Option.some.inj H
      go_wp2_with (first | ((with_reducible refine gate_callee (f := 94) rfl ?_); refine goesL_ (some 14) rfl rfl Try.func94 (by kernel_rfl) rfl #[.int .i64 a1] rfl (by (try simp only [List.map_toArray, List.map_cons, List.map_nil]); first | done | rfl | (simp only [List.length_drop, List.length_take]; rfl)) ?_; (with_reducible refine (word_mask.calls kj2 a1 t125 _ A6.out).mono ?_); rintro e w' ⟨rfl, ⟨nd, rfl⟩⟩; refine ⟨_, rfl, ?_⟩) | ((with_reducible refine gate_callee (f := 94) rfl ?_); refine goesL_ (some 23) rfl rfl Try.func94 (by kernel_rfl) rfl #[.int .i64 a1] rfl (by (try simp only [List.map_toArray, List.map_cons, List.map_nil]); first | done | rfl | (simp only [List.length_drop, List.length_take]; rfl)) ?_; (with_reducible refine (word_mask.calls kj2 a1 t126 _ A11.out).mono ?_); rintro e w' ⟨rfl, ⟨nd, rfl⟩⟩; refine ⟨_, rfl, ?_⟩))
      go_ret
      exact ⟨by first | rfl | (simp; done) | (simp only [← hji7, ← hji9] <;> (first | rfl | simp)) | (simp [*]; done), by repeat (first | exact Drawn0.refl _ | apply Drawn0.step)⟩
     ·rw [if_neg c10] at H
      have c10b0 : ((ji9) == 1) = false := beq_eq_false_iff_ne.mpr c10
      have c10b1 : ((ji9) != 1) = true := bne_iff_ne.mpr c10
      obtain rfl := Option.some.inj H
      go_wp2_with (first | ((with_reducible refine gate_callee (f := 94) rfl ?_); refine goesL_ (some 14) rfl rfl Try.func94 (by kernel_rfl) rfl #[.int .i64 a1] rfl (by (try simp only [List.map_toArray, List.map_cons, List.map_nil]); first | done | rfl | (simp only [List.length_drop, List.length_take]; rfl)) ?_; (with_reducible refine (word_mask.calls kj2 a1 t125 _ A6.out).mono ?_); rintro e w' ⟨rfl, ⟨nd, rfl⟩⟩; refine ⟨_, rfl, ?_⟩))
      go_ret
      exact ⟨by first | rfl | (simp; done) | (simp only [← hji7, ← hji9] <;> (first | rfl | simp)) | (simp [*]; done), by repeat (first | exact Drawn0.refl _ | apply Drawn0.step)⟩
    ·rw [if_neg c8] at H
     exact absurd H (by simp)
def inst_signed.f (k : Nat) (a0 : Int) (a1 : Int) : Option (Int) := (word_Sign.f k a0 a1).bind fun t127 => (some (wrap64 (wrap32 (t127))))
set_option maxHeartbeats 8000000 in
set_option maxRecDepth 100000 in
theorem inst_signed.calls (k : Nat) (a0 : Int) (a1 : Int) (r : Int) (w : World) (h : inst_signed.f k a0 a1 = some r) :
  Calls Try.prog 92 #[.int .u32 a0, .int .i64 a1] w fun e w' => e = .returned (.int .i64 r) ∧ Drawn0 w w' := by
 have H : ((word_Sign.f k a0 a1).bind fun t127 => (some (wrap64 (wrap32 (t127))))) = some r := h
 clear h
 replace H := Option.bind_eq_some_iff.mp H
 obtain ⟨t127, A30, H⟩ := H
 replace H : (some (wrap64 (wrap32 (t127)))) = some r := H
 have A3 := Aside0.mk A30
 clear A30
 obtain rfl := Option.some.inj H
 go_enter Try.func92, Try.ntmps92
 go_wp2_with (first | ((with_reducible refine gate_callee (f := 98) rfl ?_); refine goesL_ (some 7) rfl rfl Try.func98 (by kernel_rfl) rfl #[.int .u32 a0, .int .i64 a1] rfl (by (try simp only [List.map_toArray, List.map_cons, List.map_nil]); first | done | rfl | (simp only [List.length_drop, List.length_take]; rfl)) ?_; (with_reducible refine (word_Sign.calls k a0 a1 t127 _ A3.out).mono ?_); rintro e w' ⟨rfl, ⟨nd, rfl⟩⟩; refine ⟨_, rfl, ?_⟩))
 go_ret
 exact ⟨by first | rfl | (simp; done) | (simp [*]; done), by repeat (first | exact Drawn0.refl _ | apply Drawn0.step)⟩
end Go.Proofs.Ytekenddkoahjgaa.Q
