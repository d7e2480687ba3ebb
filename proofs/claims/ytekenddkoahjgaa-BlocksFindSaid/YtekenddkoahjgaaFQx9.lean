import Derived.Test.YtekenddkoahjgaaFZc
import Derived.Test.YtekenddkoahjgaaFQx3
import Derived.Test.YtekenddkoahjgaaFQx5
import Derived.Test.YtekenddkoahjgaaFQx6
section
namespace Go.Proofs.Ytekenddkoahjgaa.Q
open Go.RowKit Go.Proofs.YtekenddkoahjgaaW.PrintWords Go.Proofs.YtekenddkoahjgaaW.PrintLast Go.Proofs.YtekenddkoahjgaaW.PrintMore
attribute [local go_sem] max2_int min2_int max_two min_two max_three min_three max_four min_four
attribute [local go_sem] imax_u32 imax_u8 isg_u32 isg_u8
set_option linter.unusedVariables false
set_option linter.unusedSimpArgs false
def word_Sign.j0 : Nat → Int → Int → Bool → Option (Int)
 | 0, _, _, _ => none
 | k + 1, x0, x1, x10 => if x10 = true then (some x0) else ((word_mask.f k x1).bind fun t125 => (if 0 ≤ (wrap64 (x1 - 1)) then (if (shr .u32 (Go.bits .and .u32 x0 t125) (wrap64 (x1 - 1))) = 1 then ((word_mask.f k x1).bind fun t126 => (some (Go.bits .or .u32 (Go.bits .and .u32 x0 t125) (Go.bits .xor .u32 4294967295 t126)))) else (some (Go.bits .and .u32 x0 t125))) else (none)))
def word_Sign.f (k : Nat) (a0 : Int) (a1 : Int) : Option (Int) := if a1 < 1 then (word_Sign.j0 k a0 a1 true) else (word_Sign.j0 k a0 a1 (decide (a1 ≥ 32)))
theorem word_Sign.mono_l : ∀ k, (∀ y0 y1 y2, LeO (word_Sign.j0 k y0 y1 y2) (word_Sign.j0 (k + 1) y0 y1 y2))
 | 0 => fun _ _ _ r h => by simp [word_Sign.j0] at h
 | k + 1 => by
  have ih0 := word_Sign.mono_l k
  ·intro y0 y1 y2
   unfold word_Sign.j0
   repeat' first
   | (with_reducible exact ih0 _ _ _)
   | (with_reducible exact word_mask.mono _ _)
   | (with_reducible exact LeO.refl _)
   | (with_reducible exact LeO.none _)
   | (with_reducible refine LeO.ite ?_ ?_)
   | (with_reducible refine LeO.bind ?_ (fun _ => ?_))
   | exact ih0 _ _ _
   | exact word_mask.mono _ _
   | exact LeO.none _
   | refine LeO.ite ?_ ?_
   | refine LeO.bind ?_ (fun _ => ?_)
theorem word_Sign.mono : ∀ a0 a1 k, LeO (word_Sign.f k a0 a1) (word_Sign.f (k + 1) a0 a1) := by
 intro a0 a1 k
 have ih0 := word_Sign.mono_l k
 unfold word_Sign.f
 repeat' first
   | (with_reducible exact ih0 _ _ _)
   | (with_reducible exact word_mask.mono _ _)
   | (with_reducible exact LeO.refl _)
   | (with_reducible exact LeO.none _)
   | (with_reducible refine LeO.ite ?_ ?_)
   | (with_reducible refine LeO.bind ?_ (fun _ => ?_))
   | exact ih0 _ _ _
   | exact word_mask.mono _ _
   | exact LeO.none _
   | refine LeO.ite ?_ ?_
   | refine LeO.bind ?_ (fun _ => ?_)
set_option maxHeartbeats 8000000 in
set_option maxRecDepth 100000 in
theorem word_Sign.calls (k : Nat) (a0 : Int) (a1 : Int) (r : Int) (w : World) (h : word_Sign.f k a0 a1 = some r) :
  Calls Try.prog 98 #[.int .u32 a0, .int .i64 a1] w fun e w' => e = .returned (.int .u32 r) ∧ Drawn0 w w' := by
 have H : (if a1 < 1 then (word_Sign.j0 k a0 a1 true) else (word_Sign.j0 k a0 a1 (decide (a1 ≥ 32)))) = some r := h
 clear h
 have HC3 := Aside0.mk H
 clear H
 go_enter Try.func98, Try.ntmps98
 go_upto_region 1 with (fail)
 go_cut [10] (fun v10 wc => ∃ (kq : Nat) (x10_2 : Bool), v10 = .bool x10_2 ∧ Aside0 (word_Sign.j0 kq a0 a1 x10_2 = some r) ∧ Aside0 (kq ≤ k) ∧ Drawn0 w wc)
 case first =>
  have H := HC3.out
  clear HC3
  by_cases c4 : a1 < 1
  ·rw [if_pos c4] at H
   have c4b0 : decide (a1 < 1) = true := decide_eq_true c4
   clear c4
   (first | rw [c4b0] | (simp only [i64_w, i32_w]; rw [c4b0]) | skip)
   have H' := Aside0.mk H
   clear H
   go_wp2
   go_meet
   case rel => exact ⟨_, (true), (by first | rfl | (simp; done) | (simp [*]; done)), H', ⟨by first | omega | exact Nat.le_refl _⟩, by repeat (first | exact Drawn0.refl _ | apply Drawn0.step)⟩
  ·rw [if_neg c4] at H
   have c4b0 : decide (a1 < 1) = false := decide_eq_false c4
   clear c4
   (first | rw [c4b0] | (simp only [i64_w, i32_w]; rw [c4b0]) | skip)
   have H' := Aside0.mk H
   clear H
   go_wp2
   go_meet
   case rel => exact ⟨_, (decide (a1 ≥ 32)), (by first | rfl | (simp; done) | (simp [*]; done)), H', ⟨by first | omega | exact Nat.le_refl _⟩, by repeat (first | exact Drawn0.refl _ | apply Drawn0.step)⟩
 case rest =>
  clear HC3
  try clear p2
  try clear c4
  try clear c4b0
  obtain ⟨kq, x10_2, rfl, HA, HJ2, ⟨mc2, rfl⟩⟩ := hcut
  cases kq with
  | zero => exact absurd HA.out (by simp [word_Sign.j0])
  | succ kj2 =>
   have H := HA.out
   clear HA
   simp only [word_Sign.j0] at H
   by_cases c5 : x10_2 = true
   ·subst c5
    have H1 : (some a0) = some r := by rw [if_pos rfl] at H; exact H
    clear H
    have H := H1
    clear H1
    obtain rfl := Option.some.inj H
    go_wp2
    go_ret
    exact ⟨by first | rfl | (simp; done) | (simp [*]; done), by repeat (first | exact Drawn0.refl _ | apply Drawn0.step)⟩
   ·replace c5 := Bool.eq_false_iff.mpr c5
    subst c5
    have H1 : ((word_mask.f kj2 a1).bind fun t125 => (if 0 ≤ (wrap64 (a1 - 1)) then (if (shr .u32 (Go.bits .and .u32 a0 t125) (wrap64 (a1 - 1))) = 1 then ((word_mask.f kj2 a1).bind fun t126 => (some (Go.bits .or .u32 (Go.bits .and .u32 a0 t125) (Go.bits .xor .u32 4294967295 t126)))) else (some (Go.bits .and .u32 a0 t125))) else (none))) = some r := by rw [if_neg (show ¬ (false = true) by decide)] at H; exact H
    clear H
    have H := H1
    clear H1
    replace H := Option.bind_eq_some_iff.mp H
    obtain ⟨t125, A60, H⟩ := H
    replace H : (if 0 ≤ (wrap64 (a1 - 1)) then (if (shr .u32 (Go.bits .and .u32 a0 t125) (wrap64 (a1 - 1))) = 1 then ((word_mask.f kj2 a1).bind fun t126 => (some (Go.bits .or .u32 (Go.bits .and .u32 a0 t125) (Go.bits .xor .u32 4294967295 t126)))) else (some (Go.bits .and .u32 a0 t125))) else (none)) = some r := H
    have A6 := Aside0.mk A60
    clear A60
    obtain ⟨ji7, hji7⟩ : ∃ j_ : Int, (wrap64 (a1 - 1)) = j_ := ⟨_, rfl⟩
    replace H : (if 0 ≤ (ji7) then (if (shr .u32 (Go.bits .and .u32 a0 t125) (ji7)) = 1 then ((word_mask.f kj2 a1).bind fun t126 => (some (Go.bits .or .u32 (Go.bits .and .u32 a0 t125) (Go.bits .xor .u32 4294967295 t126)))) else (some (Go.bits .and .u32 a0 t125))) else (none)) = some r := by first | (rw [hji7] at H; exact H) | (simp only [hji7] at H ⊢; exact H)
    (try rw [hji7] at A6)
    have hji7w : (IntKind.i64.wrap (a1 - 1)) = ji7 := (i64_w _).trans hji7
    by_cases c8 : 0 ≤ (ji7)
    ·rw [if_pos c8] at H
     have c8b0 := eq_true c8
     have c8b1 : decide (0 ≤ (ji7)) = true := decide_eq_true c8
     clear c8
     obtain ⟨ji9, hji9⟩ : ∃ j_ : Int, (shr .u32 (Go.bits .and .u32 a0 t125) (ji7)) = j_ := ⟨_, rfl⟩
     replace H : (if (ji9) = 1 then ((word_mask.f kj2 a1).bind fun t126 => (some (Go.bits .or .u32 (Go.bits .and .u32 a0 t125) (Go.bits .xor .u32 4294967295 t126)))) else (some (Go.bits .and .u32 a0 t125))) = some r := by first | (rw [hji9] at H; exact H) | (simp only [hji9] at H ⊢; exact H)
     (try rw [hji9] at A6)
     have hji9_ : ((Go.bits .and .u32 a0 t125) / 2 ^ min (ji7).toNat 32) = ji9 := hji9
     have hji9z : (ji7) ≤ 32 → ((Go.bits .and .u32 a0 t125) / 2 ^ (ji7).toNat) = ji9 := shr_small hji9
     by_cases c10 : (ji9) = 1
     ·rw [if_pos c10] at H
      have c10b0 : ((ji9) == 1) = true := beq_iff_eq.mpr c10
      have c10b1 : ((ji9) != 1) = false := bne_eq_false_iff_eq.mpr c10
      clear c10
      replace H := Option.bind_eq_some_iff.mp H
      obtain ⟨t126, A110, H⟩ := H
      replace H : (some (Go.bits .or .u32 (Go.bits .and .u32 a0 t125) (Go.bits .xor .u32 4294967295 t126))) = some r := H
      have A11 := Aside0.mk A110
      clear A110
      obtain rfl := Option.some.inj H
      go_wp2_with (first | ((with_reducible refine gate_callee (f := 94) rfl ?_); refine goesL_ (some 14) rfl rfl Try.func94 (by kernel_rfl) rfl #[.int .i64 a1] rfl zza ?_; (with_reducible refine (word_mask.calls kj2 a1 t125 _ A6.out).mono ?_); rintro e w' ⟨rfl, ⟨nd, rfl⟩⟩; refine ⟨_, rfl, ?_⟩) | ((with_reducible refine gate_callee (f := 94) rfl ?_); refine goesL_ (some 23) rfl rfl Try.func94 (by kernel_rfl) rfl #[.int .i64 a1] rfl zza ?_; (with_reducible refine (word_mask.calls kj2 a1 t126 _ A11.out).mono ?_); rintro e w' ⟨rfl, ⟨nd, rfl⟩⟩; refine ⟨_, rfl, ?_⟩))
      go_ret
      exact ⟨by first | rfl | (simp; done) | (simp only [← hji7, ← hji9] <;> (first | rfl | simp)) | (simp [*]; done), by repeat (first | exact Drawn0.refl _ | apply Drawn0.step)⟩
     ·rw [if_neg c10] at H
      have c10b0 : ((ji9) == 1) = false := beq_eq_false_iff_ne.mpr c10
      have c10b1 : ((ji9) != 1) = true := bne_iff_ne.mpr c10
      obtain rfl := Option.some.inj H
      go_wp2_with (first | ((with_reducible refine gate_callee (f := 94) rfl ?_); refine goesL_ (some 14) rfl rfl Try.func94 (by kernel_rfl) rfl #[.int .i64 a1] rfl zza ?_; (with_reducible refine (word_mask.calls kj2 a1 t125 _ A6.out).mono ?_); rintro e w' ⟨rfl, ⟨nd, rfl⟩⟩; refine ⟨_, rfl, ?_⟩))
      go_ret
      exact ⟨by first | rfl | (simp; done) | (simp only [← hji7, ← hji9] <;> (first | rfl | simp)) | (simp [*]; done), by repeat (first | exact Drawn0.refl _ | apply Drawn0.step)⟩
    ·rw [if_neg c8] at H
     exact absurd H (by simp)
def inst_signed.f (k : Nat) (a0 : Int) (a1 : Int) : Option (Int) := (word_Sign.f k a0 a1).bind fun t127 => (some (wrap64 (wrap32 (t127))))
theorem inst_signed.mono : ∀ a0 a1 k, LeO (inst_signed.f k a0 a1) (inst_signed.f (k + 1) a0 a1) := by
 intro a0 a1 k
 unfold inst_signed.f
 repeat' first
   | (with_reducible exact word_Sign.mono _ _ _)
   | (with_reducible exact LeO.refl _)
   | (with_reducible exact LeO.none _)
   | (with_reducible refine LeO.ite ?_ ?_)
   | (with_reducible refine LeO.bind ?_ (fun _ => ?_))
   | exact word_Sign.mono _ _ _
   | exact LeO.none _
   | refine LeO.ite ?_ ?_
   | refine LeO.bind ?_ (fun _ => ?_)
set_option maxHeartbeats 8000000 in
set_option maxRecDepth 100000 in
theorem inst_signed.calls (k : Nat) (a0 : Int) (a1 : Int) (r : Int) (w : World) (h : inst_signed.f k a0 a1 = some r) :
  Calls Try.prog 92 #[.int .u32 a0, .int .i64 a1] w fun e w' => e = .returned (.int .i64 r) ∧ Drawn0 w w' := by
 have H : ((word_Sign.f k a0 a1).bind fun t127 => (some (wrap64 (wrap32 (t127))))) = some r := h
 clear h
 replace H := Option.bind_eq_some_iff.mp H
 obtain ⟨t127, A30, H⟩ := H
 replace H : (some (wrap64 (wrap32 (t127)))) = some r := H
 have A3 := Aside0.mk A30
 clear A30
 obtain rfl := Option.some.inj H
 go_enter Try.func92, Try.ntmps92
 go_wp2_with (first | ((with_reducible refine gate_callee (f := 98) rfl ?_); refine goesL_ (some 7) rfl rfl Try.func98 (by kernel_rfl) rfl #[.int .u32 a0, .int .i64 a1] rfl zza ?_; (with_reducible refine (word_Sign.calls k a0 a1 t127 _ A3.out).mono ?_); rintro e w' ⟨rfl, ⟨nd, rfl⟩⟩; refine ⟨_, rfl, ?_⟩))
 go_ret
 exact ⟨by first | rfl | (simp; done) | (simp [*]; done), by repeat (first | exact Drawn0.refl _ | apply Drawn0.step)⟩
end Go.Proofs.Ytekenddkoahjgaa.Q
end
section
namespace Go.Proofs.Ytekenddkoahjgaa.Q
open Go.RowKit Go.Proofs.YtekenddkoahjgaaW.PrintWords Go.Proofs.YtekenddkoahjgaaW.PrintLast Go.Proofs.YtekenddkoahjgaaW.PrintMore
attribute [local go_sem] max2_int min2_int max_two min_two max_three min_three max_four min_four
attribute [local go_sem] imax_u32 imax_u8 isg_u32 isg_u8
set_option linter.unusedVariables false
set_option linter.unusedSimpArgs false
def inst_imm.f (k : Nat) (a0 a1 : Int) : Option Int :=
 if a0 = 85 then (word_Field.f k a1 12 20).bind fun t1 => some (wrap64 t1)
 else if a0 = 74 then (word_Field.f k a1 31 1).bind fun t1 => (word_Field.f k a1 12 8).bind fun t2 => (word_Field.f k a1 20 1).bind fun t3 => (word_Field.f k a1 21 10).bind fun t4 => (inst_signed.f k (Go.bits .or .u32 (Go.bits .or .u32 (Go.bits .or .u32 ((t1 * 1048576) % 4294967296) ((t2 * 4096) % 4294967296)) ((t3 * 2048) % 4294967296)) ((t4 * 2) % 4294967296)) 21).bind fun t9 => some t9
 else if a0 = 73 then (word_Field.f k a1 20 12).bind fun t1 => (inst_signed.f k (t1) 12).bind fun t9 => some t9
 else if a0 = 83 then (word_Field.f k a1 25 7).bind fun t1 => (word_Field.f k a1 7 5).bind fun t2 => (inst_signed.f k (Go.bits .or .u32 ((t1 * 32) % 4294967296) (t2)) 12).bind fun t9 => some t9
 else if a0 = 66 then (word_Field.f k a1 31 1).bind fun t1 => (word_Field.f k a1 7 1).bind fun t2 => (word_Field.f k a1 25 6).bind fun t3 => (word_Field.f k a1 8 4).bind fun t4 => (inst_signed.f k (Go.bits .or .u32 (Go.bits .or .u32 (Go.bits .or .u32 ((t1 * 4096) % 4294967296) ((t2 * 2048) % 4294967296)) ((t3 * 32) % 4294967296)) ((t4 * 2) % 4294967296)) 13).bind fun t9 => some t9
 else if a0 = 72 then (word_Field.f k a1 20 5).bind fun t1 => some (wrap64 t1)
 else some 0
theorem inst_imm.mono : ∀ a0 a1 k, LeO (inst_imm.f k a0 a1) (inst_imm.f (k + 1) a0 a1) := by
 intro a0 a1 k
 unfold inst_imm.f
 repeat' first
   | (with_reducible exact word_Field.mono _ _ _ _)
   | (with_reducible exact inst_signed.mono _ _ _)
   | (with_reducible exact LeO.refl _)
   | (with_reducible refine LeO.ite ?_ ?_)
   | (with_reducible refine LeO.bind ?_ (fun _ => ?_))
set_option maxHeartbeats 800000 in
set_option maxRecDepth 100000 in
theorem imm1 (k : Nat) (n p b fr : Int) (g : Nat) (w : World) (hc : w.cell? ⟨g, 0, none⟩ = some (.int .u32 n)) (hF : word_Field.f k n p b = some fr) :
  Calls Try.prog 91 #[.int .i64 p, .int .i64 b, .pointer (some ⟨g, 0, none⟩)] w fun e w' => e = .returned (.int .u32 fr) ∧ Drawn0 w w' := by
 have HF := Aside0.mk hF
 clear hF
 go_enter Try.func91, Try.ntmps91
 go_wp2_with (go_at_call 78; (with_reducible refine (word_Field.calls k n p b fr _ HF.out).mono ?_); rintro e w' ⟨rfl, ⟨nd, rfl⟩⟩)
 go_ret
 exact ⟨rfl, by repeat (first | exact Drawn0.refl _ | apply Drawn0.step)⟩
set_option maxHeartbeats 1600000 in
set_option maxRecDepth 100000 in
theorem inst_imm.calls (k : Nat) (a0 a1 r : Int) (w : World) (h : inst_imm.f k a0 a1 = some r) :
  Calls Try.prog 77 #[.int .u8 a0, .int .u32 a1] w fun e w' => e = .returned (.int .i64 r) ∧ Below w.heap.size w w' := by
 unfold inst_imm.f at h
 by_cases c0 : a0 = 85
 ·rw [if_pos c0] at h
  subst c0
  obtain ⟨t1, A1, h⟩ := Option.bind_eq_some_iff.mp h
  have A1 := Aside0.mk A1
  obtain rfl := Option.some.inj h
  go_enter Try.func77, Try.ntmps77
  go_wp2_with (first | (go_at_call 91; (with_reducible refine (imm1 k a1 12 20 t1 _ _ ?_ A1.out).mono ?_); (first | exact box_cell w a1 _ _ _ | exact box_cell w a1 _ _ 0); rintro e w' ⟨rfl, ⟨nd, rfl⟩⟩))
  go_ret
  exact ⟨by first | rfl | (simp; done), by first | exact box_below w _ _ | exact box_below w _ 0⟩
 rw [if_neg c0] at h
 have b0 : (a0 == 85) = false := beq_eq_false_iff_ne.mpr c0
 by_cases c1 : a0 = 74
 ·rw [if_pos c1] at h
  subst c1
  clear c0 b0
  obtain ⟨t1, A1, h⟩ := Option.bind_eq_some_iff.mp h
  obtain ⟨t2, A2, h⟩ := Option.bind_eq_some_iff.mp h
  obtain ⟨t3, A3, h⟩ := Option.bind_eq_some_iff.mp h
  obtain ⟨t4, A4, h⟩ := Option.bind_eq_some_iff.mp h
  have A1 := Aside0.mk A1; have A2 := Aside0.mk A2; have A3 := Aside0.mk A3; have A4 := Aside0.mk A4
  obtain ⟨t9, A9, h⟩ := Option.bind_eq_some_iff.mp h
  have A9 := Aside0.mk A9
  obtain rfl := Option.some.inj h
  go_enter Try.func77, Try.ntmps77
  go_wp2_with (first | (go_at_call 91; (with_reducible refine (imm1 k a1 31 1 t1 _ _ ?_ A1.out).mono ?_); (first | exact box_cell w a1 _ _ _ | exact box_cell w a1 _ _ 0); rintro e w' ⟨rfl, ⟨nd, rfl⟩⟩) | (go_at_call 91; (with_reducible refine (imm1 k a1 12 8 t2 _ _ ?_ A2.out).mono ?_); (first | exact box_cell w a1 _ _ _ | exact box_cell w a1 _ _ 0); rintro e w' ⟨rfl, ⟨nd, rfl⟩⟩) | (go_at_call 91; (with_reducible refine (imm1 k a1 20 1 t3 _ _ ?_ A3.out).mono ?_); (first | exact box_cell w a1 _ _ _ | exact box_cell w a1 _ _ 0); rintro e w' ⟨rfl, ⟨nd, rfl⟩⟩) | (go_at_call 91; (with_reducible refine (imm1 k a1 21 10 t4 _ _ ?_ A4.out).mono ?_); (first | exact box_cell w a1 _ _ _ | exact box_cell w a1 _ _ 0); rintro e w' ⟨rfl, ⟨nd, rfl⟩⟩) | (go_at_call 92; (with_reducible refine (inst_signed.calls k (Go.bits .or .u32 (Go.bits .or .u32 (Go.bits .or .u32 ((t1 * 1048576) % 4294967296) ((t2 * 4096) % 4294967296)) ((t3 * 2048) % 4294967296)) ((t4 * 2) % 4294967296)) 21 t9 _ A9.out).mono ?_); rintro e w' ⟨rfl, ⟨nd, rfl⟩⟩))
  go_ret
  exact ⟨by first | rfl | (simp; done), by first | exact box_below w _ _ | exact box_below w _ 0⟩
 rw [if_neg c1] at h
 have b1 : (a0 == 74) = false := beq_eq_false_iff_ne.mpr c1
 by_cases c2 : a0 = 73
 ·rw [if_pos c2] at h
  subst c2
  clear c0 b0 c1 b1
  obtain ⟨t1, A1, h⟩ := Option.bind_eq_some_iff.mp h
  have A1 := Aside0.mk A1
  obtain ⟨t9, A9, h⟩ := Option.bind_eq_some_iff.mp h
  have A9 := Aside0.mk A9
  obtain rfl := Option.some.inj h
  go_enter Try.func77, Try.ntmps77
  go_wp2_with (first | (go_at_call 91; (with_reducible refine (imm1 k a1 20 12 t1 _ _ ?_ A1.out).mono ?_); (first | exact box_cell w a1 _ _ _ | exact box_cell w a1 _ _ 0); rintro e w' ⟨rfl, ⟨nd, rfl⟩⟩) | (go_at_call 92; (with_reducible refine (inst_signed.calls k (t1) 12 t9 _ A9.out).mono ?_); rintro e w' ⟨rfl, ⟨nd, rfl⟩⟩))
  go_ret
  exact ⟨by first | rfl | (simp; done), by first | exact box_below w _ _ | exact box_below w _ 0⟩
 rw [if_neg c2] at h
 have b2 : (a0 == 73) = false := beq_eq_false_iff_ne.mpr c2
 by_cases c3 : a0 = 83
 ·rw [if_pos c3] at h
  subst c3
  clear c0 b0 c1 b1 c2 b2
  obtain ⟨t1, A1, h⟩ := Option.bind_eq_some_iff.mp h
  obtain ⟨t2, A2, h⟩ := Option.bind_eq_some_iff.mp h
  have A1 := Aside0.mk A1; have A2 := Aside0.mk A2
  obtain ⟨t9, A9, h⟩ := Option.bind_eq_some_iff.mp h
  have A9 := Aside0.mk A9
  obtain rfl := Option.some.inj h
  go_enter Try.func77, Try.ntmps77
  go_wp2_with (first | (go_at_call 91; (with_reducible refine (imm1 k a1 25 7 t1 _ _ ?_ A1.out).mono ?_); (first | exact box_cell w a1 _ _ _ | exact box_cell w a1 _ _ 0); rintro e w' ⟨rfl, ⟨nd, rfl⟩⟩) | (go_at_call 91; (with_reducible refine (imm1 k a1 7 5 t2 _ _ ?_ A2.out).mono ?_); (first | exact box_cell w a1 _ _ _ | exact box_cell w a1 _ _ 0); rintro e w' ⟨rfl, ⟨nd, rfl⟩⟩) | (go_at_call 92; (with_reducible refine (inst_signed.calls k (Go.bits .or .u32 ((t1 * 32) % 4294967296) (t2)) 12 t9 _ A9.out).mono ?_); rintro e w' ⟨rfl, ⟨nd, rfl⟩⟩))
  go_ret
  exact ⟨by first | rfl | (simp; done), by first | exact box_below w _ _ | exact box_below w _ 0⟩
 rw [if_neg c3] at h
 have b3 : (a0 == 83) = false := beq_eq_false_iff_ne.mpr c3
 by_cases c4 : a0 = 66
 ·rw [if_pos c4] at h
  subst c4
  clear c0 b0 c1 b1 c2 b2 c3 b3
  obtain ⟨t1, A1, h⟩ := Option.bind_eq_some_iff.mp h
  obtain ⟨t2, A2, h⟩ := Option.bind_eq_some_iff.mp h
  obtain ⟨t3, A3, h⟩ := Option.bind_eq_some_iff.mp h
  obtain ⟨t4, A4, h⟩ := Option.bind_eq_some_iff.mp h
  have A1 := Aside0.mk A1; have A2 := Aside0.mk A2; have A3 := Aside0.mk A3; have A4 := Aside0.mk A4
  obtain ⟨t9, A9, h⟩ := Option.bind_eq_some_iff.mp h
  have A9 := Aside0.mk A9
  obtain rfl := Option.some.inj h
  go_enter Try.func77, Try.ntmps77
  go_wp2_with (first | (go_at_call 91; (with_reducible refine (imm1 k a1 31 1 t1 _ _ ?_ A1.out).mono ?_); (first | exact box_cell w a1 _ _ _ | exact box_cell w a1 _ _ 0); rintro e w' ⟨rfl, ⟨nd, rfl⟩⟩) | (go_at_call 91; (with_reducible refine (imm1 k a1 7 1 t2 _ _ ?_ A2.out).mono ?_); (first | exact box_cell w a1 _ _ _ | exact box_cell w a1 _ _ 0); rintro e w' ⟨rfl, ⟨nd, rfl⟩⟩) | (go_at_call 91; (with_reducible refine (imm1 k a1 25 6 t3 _ _ ?_ A3.out).mono ?_); (first | exact box_cell w a1 _ _ _ | exact box_cell w a1 _ _ 0); rintro e w' ⟨rfl, ⟨nd, rfl⟩⟩) | (go_at_call 91; (with_reducible refine (imm1 k a1 8 4 t4 _ _ ?_ A4.out).mono ?_); (first | exact box_cell w a1 _ _ _ | exact box_cell w a1 _ _ 0); rintro e w' ⟨rfl, ⟨nd, rfl⟩⟩) | (go_at_call 92; (with_reducible refine (inst_signed.calls k (Go.bits .or .u32 (Go.bits .or .u32 (Go.bits .or .u32 ((t1 * 4096) % 4294967296) ((t2 * 2048) % 4294967296)) ((t3 * 32) % 4294967296)) ((t4 * 2) % 4294967296)) 13 t9 _ A9.out).mono ?_); rintro e w' ⟨rfl, ⟨nd, rfl⟩⟩))
  go_ret
  exact ⟨by first | rfl | (simp; done), by first | exact box_below w _ _ | exact box_below w _ 0⟩
 rw [if_neg c4] at h
 have b4 : (a0 == 66) = false := beq_eq_false_iff_ne.mpr c4
 by_cases c5 : a0 = 72
 ·rw [if_pos c5] at h
  subst c5
  clear c0 b0 c1 b1 c2 b2 c3 b3 c4 b4
  obtain ⟨t1, A1, h⟩ := Option.bind_eq_some_iff.mp h
  have A1 := Aside0.mk A1
  obtain rfl := Option.some.inj h
  go_enter Try.func77, Try.ntmps77
  go_wp2_with (first | (go_at_call 91; (with_reducible refine (imm1 k a1 20 5 t1 _ _ ?_ A1.out).mono ?_); (first | exact box_cell w a1 _ _ _ | exact box_cell w a1 _ _ 0); rintro e w' ⟨rfl, ⟨nd, rfl⟩⟩))
  go_ret
  exact ⟨by first | rfl | (simp; done), by first | exact box_below w _ _ | exact box_below w _ 0⟩
 rw [if_neg c5] at h
 have b5 : (a0 == 72) = false := beq_eq_false_iff_ne.mpr c5
 obtain rfl := Option.some.inj h
 go_enter Try.func77, Try.ntmps77
 go_wp2_with fail
 go_ret
 exact ⟨by first | rfl | (simp; done), by first | exact box_below w _ _ | exact box_below w _ 0⟩
end Go.Proofs.Ytekenddkoahjgaa.Q
end
