import Derived.Test.YtekenddkoahjgaaFZc
import Derived.Test.YtekenddkoahjgaaFQx3
import Derived.Test.YtekenddkoahjgaaFQx11
section
namespace Go.Proofs.Ytekenddkoahjgaa.Q
open Go.RowKit Go.Proofs.YtekenddkoahjgaaW.PrintWords Go.Proofs.YtekenddkoahjgaaW.PrintLast Go.Proofs.YtekenddkoahjgaaW.PrintMore
attribute [local go_sem] max2_int min2_int max_two min_two max_three min_three max_four min_four
attribute [local go_sem] imax_u32 imax_u8 isg_u32 isg_u8
set_option linter.unusedVariables false
set_option linter.unusedSimpArgs false
def whetstoneref02_in.l0 : Nat → Int → ByteArray → Int → Option (Bool)
 | 0, _, _, _ => none
 | k + 1, x0, x1, x5 => if x5 < (x1.size : Int) then (if 0 ≤ x5 then (if (bt x1 x5) = x0 then (some true) else (whetstoneref02_in.l0 k x0 x1 (wrap64 (x5 + 1)))) else (none)) else (some false)
def whetstoneref02_in.f (k : Nat) (a0 : Int) (a1 : ByteArray) : Option (Bool) := whetstoneref02_in.l0 k a0 a1 0
theorem whetstoneref02_in.mono_l : ∀ k, (∀ y0 y1 y2, LeO (whetstoneref02_in.l0 k y0 y1 y2) (whetstoneref02_in.l0 (k + 1) y0 y1 y2))
 | 0 => fun _ _ _ r h => by simp [whetstoneref02_in.l0] at h
 | k + 1 => by
  have ih0 := whetstoneref02_in.mono_l k
  ·intro y0 y1 y2
   unfold whetstoneref02_in.l0
   repeat' first
   | (with_reducible exact ih0 _ _ _)
   | (with_reducible exact LeO.refl _)
   | (with_reducible exact LeO.none _)
   | (with_reducible refine LeO.ite ?_ ?_)
   | (with_reducible refine LeO.bind ?_ (fun _ => ?_))
   | exact ih0 _ _ _
   | exact LeO.none _
   | refine LeO.ite ?_ ?_
   | refine LeO.bind ?_ (fun _ => ?_)
theorem whetstoneref02_in.mono : ∀ a0 a1 k, LeO (whetstoneref02_in.f k a0 a1) (whetstoneref02_in.f (k + 1) a0 a1) := by
 intro a0 a1 k
 have ih0 := whetstoneref02_in.mono_l k
 unfold whetstoneref02_in.f
 repeat' first
   | (with_reducible exact ih0 _ _ _)
   | (with_reducible exact LeO.refl _)
   | (with_reducible exact LeO.none _)
   | (with_reducible refine LeO.ite ?_ ?_)
   | (with_reducible refine LeO.bind ?_ (fun _ => ?_))
   | exact ih0 _ _ _
   | exact LeO.none _
   | refine LeO.ite ?_ ?_
   | refine LeO.bind ?_ (fun _ => ?_)
set_option maxHeartbeats 8000000 in
set_option maxRecDepth 100000 in
theorem whetstoneref02_in.calls (k : Nat) (a0 : Int) (a1 : ByteArray) (r : Bool) (w : World) (h : whetstoneref02_in.f k a0 a1 = some r) :
  Calls Try.prog 54 #[.int .u8 a0, .string a1] w fun e w' => e = .returned (.bool r) ∧ Drawn0 w w' := by
 have H : (whetstoneref02_in.l0 k a0 a1 0) = some r := h
 clear h
 have H' := Aside0.mk H
 clear H
 go_enter Try.func54, Try.ntmps54
 go_wp2
 go_loopg [5] k (fun kq v5 w' => ∃ (x5_1 : Int), v5 = .int .i64 x5_1 ∧ Aside0 (whetstoneref02_in.l0 kq a0 a1 x5_1 = some r) ∧ Aside0 (kq ≤ k) ∧ Drawn0 w w')
 case atStart => exact ⟨(0), (by first | rfl | (simp; done) | (simp [*]; done)), H', ⟨Nat.le_refl _⟩, by repeat (first | exact Drawn0.refl _ | apply Drawn0.step)⟩
 case round =>
  clear H'
  try clear p2
  obtain ⟨x5_1, rfl, HA, HK1, ⟨m1, rfl⟩⟩ := hrel
  cases gk with
  | zero => exact absurd HA.out (by simp [whetstoneref02_in.l0])
  | succ k1 =>
   have H := HA.out
   clear HA
   simp only [whetstoneref02_in.l0] at H
   by_cases c3 : x5_1 < (a1.size : Int)
   ·rw [if_pos c3] at H
    have c3b0 : decide (x5_1 < (a1.size : Int)) = true := decide_eq_true c3
    clear c3
    by_cases c4 : 0 ≤ x5_1
    ·rw [if_pos c4] at H
     have c4b0 : decide (0 ≤ x5_1) = true := decide_eq_true c4
     clear c4
     by_cases c6 : (bt a1 x5_1) = a0
     ·rw [if_pos c6] at H
      have c6b0 : ((bt a1 x5_1) == a0) = true := beq_iff_eq.mpr c6
      have c6b1 : ((bt a1 x5_1) != a0) = false := bne_eq_false_iff_eq.mpr c6
      clear c6
      obtain rfl := Option.some.inj H
      have p5 : 0 ≤ (x5_1 : Int) := of_decide_eq_true zzm
      have q5 : x5_1 < (a1.size : Int) := of_decide_eq_true zzm
      have hx5 := bt_at a1 x5_1
      replace p5 := eq_true p5
      replace q5 := eq_true q5
      go_wp2
      go_ret
      exact ⟨by first | rfl | (simp; done) | (simp [*]; done), by repeat (first | exact Drawn0.refl _ | apply Drawn0.step)⟩
     ·rw [if_neg c6] at H
      have c6b0 : ((bt a1 x5_1) == a0) = false := beq_eq_false_iff_ne.mpr c6
      have c6b1 : ((bt a1 x5_1) != a0) = true := bne_iff_ne.mpr c6
      have H' := Aside0.mk H
      clear H
      have p5 : 0 ≤ (x5_1 : Int) := of_decide_eq_true zzm
      have q5 : x5_1 < (a1.size : Int) := of_decide_eq_true zzm
      have hx5 := bt_at a1 x5_1
      replace p5 := eq_true p5
      replace q5 := eq_true q5
      go_wp2
      go_roundg k1
      case measure => have := HK1.out; omega
      case rel => exact ⟨(wrap64 (x5_1 + 1)), (by first | rfl | (simp; done) | (simp [*]; done)), H', ⟨by have := HK1.out; omega⟩, by repeat (first | exact Drawn0.refl _ | apply Drawn0.step)⟩
    ·rw [if_neg c4] at H
     exact absurd H (by simp)
   ·rw [if_neg c3] at H
    have c3b0 : decide (x5_1 < (a1.size : Int)) = false := decide_eq_false c3
    clear c3
    obtain rfl := Option.some.inj H
    go_wp2
    go_ret
    exact ⟨by first | rfl | (simp; done) | (simp [*]; done), by repeat (first | exact Drawn0.refl _ | apply Drawn0.step)⟩
def whetstoneref02_Right.f (k : Nat) (a0 a1 a2 a3 a4 : Int) : Option (Bool) := (whetstoneref02_Form.f a0).bind fun t1 => (whetstoneref02_span.f k t1).bind fun t2 => if t1 = 0 then some false else (whetstoneref02_in.f k t1 (⟨#[85, 74, 73, 72, 82]⟩ : ByteArray)).bind fun b1 => (whetstoneref02_reg.f a1 b1).bind fun c1 => if c1 = true then (whetstoneref02_in.f k t1 (⟨#[73, 72, 66, 83, 82]⟩ : ByteArray)).bind fun b2 => (whetstoneref02_reg.f a2 b2).bind fun c2 => if c2 = true then (whetstoneref02_in.f k t1 (⟨#[66, 83, 82]⟩ : ByteArray)).bind fun b3 => (whetstoneref02_reg.f a3 b3).bind fun c3 => if c3 = true then if a4 ≥ t2.1 then if a4 ≤ t2.2.1 then if t2.2.2 = 0 then none else some ((Int.tmod a4 t2.2.2) == 0) else some false else some false else some false else some false else some false
theorem whetstoneref02_Right.mono : ∀ a0 a1 a2 a3 a4 k, LeO (whetstoneref02_Right.f k a0 a1 a2 a3 a4) (whetstoneref02_Right.f (k + 1) a0 a1 a2 a3 a4) := by
 intro a0 a1 a2 a3 a4 k
 unfold whetstoneref02_Right.f
 repeat' first
   | (with_reducible exact whetstoneref02_in.mono _ _ _)
   | (with_reducible exact whetstoneref02_span.mono _ _)
   | (with_reducible exact LeO.refl _)
   | (with_reducible exact LeO.none _)
   | (with_reducible refine LeO.ite ?_ ?_)
   | (with_reducible refine LeO.bind ?_ (fun _ => ?_))
theorem quietA {P : Program} {f : FuncId} {args : Array Value} {w : World} {a n : Nat} {v : Value} (h : Calls P f args (w.drewN (a + n)) fun e w' => e = .returned v ∧ Drawn0 (w.drewN (a + n)) w') : Calls P f args (w.drewN (a + n)) fun e w'' => e = .returned v ∧ ∃ m, w'' = w.drewN (a + m) :=
 h.mono fun _ _ ⟨he, ⟨m, hm⟩⟩ => ⟨he, n + m, by rw [hm, World.drewN_drewN, Nat.add_assoc]⟩
theorem right_below (w : World) (O : Obj) (a : Nat) : Below w.heap.size w ((w.alloc O).drewN a) := pw_below_drewN (below_alloc (Below.refl _ _) O) a
set_option maxHeartbeats 3200000 in
set_option maxRecDepth 100000 in
theorem whetstoneref02_Right.calls (k : Nat) (a0 a1 a2 a3 a4 : Int) (r : Bool) (w : World) (h : whetstoneref02_Right.f k a0 a1 a2 a3 a4 = some r) :
  Calls Try.prog 30 #[.agg #[.int .i64 a0, .int .i64 a1, .int .i64 a2, .int .i64 a3, .int .i64 a4]] w fun e w' => e = .returned (.bool r) ∧ Below w.heap.size w w' := by
 have hu24 := Try.underlying23
 unfold whetstoneref02_Right.f at h
 obtain ⟨t1, A1, h⟩ := Option.bind_eq_some_iff.mp h
 obtain ⟨⟨t2, t3, t4⟩, A2, h⟩ := Option.bind_eq_some_iff.mp h
 replace A1 := Aside0.mk A1
 replace A2 := Aside0.mk A2
 simp only at h
 by_cases c0 : t1 = 0
 ·rw [if_pos c0] at h
  have d0 : (t1 != 0) = false := bne_eq_false_iff_eq.mpr c0
  clear c0
  obtain rfl := Option.some.inj h
  clear h
  go_enter Try.func30, Try.ntmps30
  go_wp2_with (first | (go_at_call 31; (with_reducible refine (whetstoneref02_Form.calls _ _ _ A1.out).mono ?_); rintro e w' ⟨rfl, ⟨⟨nd, rfl⟩⟩⟩) | (go_at_call 52; (with_reducible refine (whetstoneref02_span.calls _ _ _ _ _ _ A2.out).mono ?_); rintro e w' ⟨rfl, ⟨⟨nd2, rfl⟩⟩⟩))
  go_quiet (fail)
  go_wp2
  go_ret
  exact ⟨rfl, pw_below_drewN (right_below _ _ _) _⟩
 rw [if_neg c0] at h
 have d0 : (t1 != 0) = true := bne_iff_ne.mpr c0
 clear c0
 obtain ⟨b1, B1, h⟩ := Option.bind_eq_some_iff.mp h
 obtain ⟨c1, C1, h⟩ := Option.bind_eq_some_iff.mp h
 replace B1 := Aside0.mk B1
 replace C1 := Aside0.mk C1
 cases c1
 ·rw [if_neg (by decide)] at h
  obtain rfl := Option.some.inj h
  clear h
  go_enter Try.func30, Try.ntmps30
  go_wp2_with (first | (go_at_call 31; (with_reducible refine (whetstoneref02_Form.calls _ _ _ A1.out).mono ?_); rintro e w' ⟨rfl, ⟨⟨nd, rfl⟩⟩⟩) | (go_at_call 52; (with_reducible refine (whetstoneref02_span.calls _ _ _ _ _ _ A2.out).mono ?_); rintro e w' ⟨rfl, ⟨⟨nd2, rfl⟩⟩⟩))
  go_quiet (first | (go_at_call 54; exact quietA (whetstoneref02_in.calls _ _ _ _ _ B1.out)) | (go_at_call 53; exact quietA (whetstoneref02_reg.calls _ _ _ _ C1.out)))
  go_wp2
  go_ret
  exact ⟨rfl, pw_below_drewN (right_below _ _ _) _⟩
 rw [if_pos rfl] at h
 obtain ⟨b2, B2, h⟩ := Option.bind_eq_some_iff.mp h
 obtain ⟨c2, C2, h⟩ := Option.bind_eq_some_iff.mp h
 replace B2 := Aside0.mk B2
 replace C2 := Aside0.mk C2
 cases c2
 ·rw [if_neg (by decide)] at h
  obtain rfl := Option.some.inj h
  clear h
  go_enter Try.func30, Try.ntmps30
  go_wp2_with (first | (go_at_call 31; (with_reducible refine (whetstoneref02_Form.calls _ _ _ A1.out).mono ?_); rintro e w' ⟨rfl, ⟨⟨nd, rfl⟩⟩⟩) | (go_at_call 52; (with_reducible refine (whetstoneref02_span.calls _ _ _ _ _ _ A2.out).mono ?_); rintro e w' ⟨rfl, ⟨⟨nd2, rfl⟩⟩⟩))
  go_quiet (first | (go_at_call 54; exact quietA (whetstoneref02_in.calls _ _ _ _ _ B1.out)) | (go_at_call 53; exact quietA (whetstoneref02_reg.calls _ _ _ _ C1.out)) | (go_at_call 54; exact quietA (whetstoneref02_in.calls _ _ _ _ _ B2.out)) | (go_at_call 53; exact quietA (whetstoneref02_reg.calls _ _ _ _ C2.out)))
  go_wp2
  go_ret
  exact ⟨rfl, pw_below_drewN (right_below _ _ _) _⟩
 rw [if_pos rfl] at h
 obtain ⟨b3, B3, h⟩ := Option.bind_eq_some_iff.mp h
 obtain ⟨c3, C3, h⟩ := Option.bind_eq_some_iff.mp h
 replace B3 := Aside0.mk B3
 replace C3 := Aside0.mk C3
 cases c3
 ·rw [if_neg (by decide)] at h
  obtain rfl := Option.some.inj h
  clear h
  go_enter Try.func30, Try.ntmps30
  go_wp2_with (first | (go_at_call 31; (with_reducible refine (whetstoneref02_Form.calls _ _ _ A1.out).mono ?_); rintro e w' ⟨rfl, ⟨⟨nd, rfl⟩⟩⟩) | (go_at_call 52; (with_reducible refine (whetstoneref02_span.calls _ _ _ _ _ _ A2.out).mono ?_); rintro e w' ⟨rfl, ⟨⟨nd2, rfl⟩⟩⟩))
  go_quiet (first | (go_at_call 54; exact quietA (whetstoneref02_in.calls _ _ _ _ _ B1.out)) | (go_at_call 53; exact quietA (whetstoneref02_reg.calls _ _ _ _ C1.out)) | (go_at_call 54; exact quietA (whetstoneref02_in.calls _ _ _ _ _ B2.out)) | (go_at_call 53; exact quietA (whetstoneref02_reg.calls _ _ _ _ C2.out)) | (go_at_call 54; exact quietA (whetstoneref02_in.calls _ _ _ _ _ B3.out)) | (go_at_call 53; exact quietA (whetstoneref02_reg.calls _ _ _ _ C3.out)))
  go_wp2
  go_ret
  exact ⟨rfl, pw_below_drewN (right_below _ _ _) _⟩
 rw [if_pos rfl] at h
 by_cases c5 : a4 ≥ t2
 rotate_left
 ·rw [if_neg c5] at h
  have d5 : decide (t2 ≤ a4) = false := decide_eq_false c5
  clear c5
  obtain rfl := Option.some.inj h
  clear h
  go_enter Try.func30, Try.ntmps30
  go_wp2_with (first | (go_at_call 31; (with_reducible refine (whetstoneref02_Form.calls _ _ _ A1.out).mono ?_); rintro e w' ⟨rfl, ⟨⟨nd, rfl⟩⟩⟩) | (go_at_call 52; (with_reducible refine (whetstoneref02_span.calls _ _ _ _ _ _ A2.out).mono ?_); rintro e w' ⟨rfl, ⟨⟨nd2, rfl⟩⟩⟩))
  go_quiet (first | (go_at_call 54; exact quietA (whetstoneref02_in.calls _ _ _ _ _ B1.out)) | (go_at_call 53; exact quietA (whetstoneref02_reg.calls _ _ _ _ C1.out)) | (go_at_call 54; exact quietA (whetstoneref02_in.calls _ _ _ _ _ B2.out)) | (go_at_call 53; exact quietA (whetstoneref02_reg.calls _ _ _ _ C2.out)) | (go_at_call 54; exact quietA (whetstoneref02_in.calls _ _ _ _ _ B3.out)) | (go_at_call 53; exact quietA (whetstoneref02_reg.calls _ _ _ _ C3.out)))
  go_wp2
  go_ret
  exact ⟨rfl, pw_below_drewN (right_below _ _ _) _⟩
 rw [if_pos c5] at h
 have d5 : decide (t2 ≤ a4) = true := decide_eq_true c5
 clear c5
 by_cases c6 : a4 ≤ t3
 rotate_left
 ·rw [if_neg c6] at h
  have d6 : decide (a4 ≤ t3) = false := decide_eq_false c6
  clear c6
  obtain rfl := Option.some.inj h
  clear h
  go_enter Try.func30, Try.ntmps30
  go_wp2_with (first | (go_at_call 31; (with_reducible refine (whetstoneref02_Form.calls _ _ _ A1.out).mono ?_); rintro e w' ⟨rfl, ⟨⟨nd, rfl⟩⟩⟩) | (go_at_call 52; (with_reducible refine (whetstoneref02_span.calls _ _ _ _ _ _ A2.out).mono ?_); rintro e w' ⟨rfl, ⟨⟨nd2, rfl⟩⟩⟩))
  go_quiet (first | (go_at_call 54; exact quietA (whetstoneref02_in.calls _ _ _ _ _ B1.out)) | (go_at_call 53; exact quietA (whetstoneref02_reg.calls _ _ _ _ C1.out)) | (go_at_call 54; exact quietA (whetstoneref02_in.calls _ _ _ _ _ B2.out)) | (go_at_call 53; exact quietA (whetstoneref02_reg.calls _ _ _ _ C2.out)) | (go_at_call 54; exact quietA (whetstoneref02_in.calls _ _ _ _ _ B3.out)) | (go_at_call 53; exact quietA (whetstoneref02_reg.calls _ _ _ _ C3.out)))
  go_wp2
  go_ret
  exact ⟨rfl, pw_below_drewN (right_below _ _ _) _⟩
 rw [if_pos c6] at h
 have d6 : decide (a4 ≤ t3) = true := decide_eq_true c6
 clear c6
 by_cases c7 : t4 = 0
 ·rw [if_pos c7] at h
  cases h
 rw [if_neg c7] at h
 obtain rfl := Option.some.inj h
 clear h
 have d7 : (t4 == 0) = false := beq_eq_false_iff_ne.mpr c7
 go_enter Try.func30, Try.ntmps30
 go_wp2_with (first | (go_at_call 31; (with_reducible refine (whetstoneref02_Form.calls _ _ _ A1.out).mono ?_); rintro e w' ⟨rfl, ⟨⟨nd, rfl⟩⟩⟩) | (go_at_call 52; (with_reducible refine (whetstoneref02_span.calls _ _ _ _ _ _ A2.out).mono ?_); rintro e w' ⟨rfl, ⟨⟨nd2, rfl⟩⟩⟩))
 go_quiet (first | (go_at_call 54; exact quietA (whetstoneref02_in.calls _ _ _ _ _ B1.out)) | (go_at_call 53; exact quietA (whetstoneref02_reg.calls _ _ _ _ C1.out)) | (go_at_call 54; exact quietA (whetstoneref02_in.calls _ _ _ _ _ B2.out)) | (go_at_call 53; exact quietA (whetstoneref02_reg.calls _ _ _ _ C2.out)) | (go_at_call 54; exact quietA (whetstoneref02_in.calls _ _ _ _ _ B3.out)) | (go_at_call 53; exact quietA (whetstoneref02_reg.calls _ _ _ _ C3.out)))
 go_wp2
 go_ret
 exact ⟨rfl, pw_below_drewN (right_below _ _ _) _⟩
def whetstoneref01_Bit.f (a0 : Int) (a1 : Int) : Option (Int) := if a1 < 0 then (some 0) else (if a1 > 31 then (some 0) else (if 0 ≤ a1 then (some (Go.bits .and .u32 (shr .u32 a0 a1) 1)) else (none)))
set_option maxHeartbeats 8000000 in
set_option maxRecDepth 100000 in
theorem whetstoneref01_Bit.calls (a0 : Int) (a1 : Int) (r : Int) (w : World) (h : whetstoneref01_Bit.f a0 a1 = some r) :
  Calls Try.prog 81 #[.int .u32 a0, .int .i64 a1] w fun e w' => e = .returned (.int .u32 r) ∧ Drawn0 w w' := by
 have H : (if a1 < 0 then (some 0) else (if a1 > 31 then (some 0) else (if 0 ≤ a1 then (some (Go.bits .and .u32 (shr .u32 a0 a1) 1)) else (none)))) = some r := h
 clear h
 by_cases c3 : a1 < 0
 ·rw [if_pos c3] at H
  have c3b0 : decide (a1 < 0) = true := decide_eq_true c3
  clear c3
  obtain rfl := Option.some.inj H
  go_enter Try.func81, Try.ntmps81
  go_wp2
  go_ret
  exact ⟨by first | rfl | (simp; done) | (simp [*]; done), by repeat (first | exact Drawn0.refl _ | apply Drawn0.step)⟩
 ·rw [if_neg c3] at H
  have c3b0 : decide (a1 < 0) = false := decide_eq_false c3
  clear c3
  by_cases c4 : a1 > 31
  ·rw [if_pos c4] at H
   have c4b0 : decide (31 < a1) = true := decide_eq_true c4
   clear c4
   obtain rfl := Option.some.inj H
   go_enter Try.func81, Try.ntmps81
   go_wp2
   go_ret
   exact ⟨by first | rfl | (simp; done) | (simp [*]; done), by repeat (first | exact Drawn0.refl _ | apply Drawn0.step)⟩
  ·rw [if_neg c4] at H
   have c4b0 : decide (31 < a1) = false := decide_eq_false c4
   clear c4
   by_cases c5 : 0 ≤ a1
   ·rw [if_pos c5] at H
    have c5b0 := eq_true c5
    have c5b1 : decide (0 ≤ a1) = true := decide_eq_true c5
    clear c5
    obtain ⟨ji6, hji6⟩ : ∃ j_ : Int, (shr .u32 a0 a1) = j_ := ⟨_, rfl⟩
    replace H : (some (Go.bits .and .u32 (ji6) 1)) = some r := by first | (rw [hji6] at H; exact H) | (simp only [hji6] at H ⊢; exact H)
    have hji6_ : (a0 / 2 ^ min a1.toNat 32) = ji6 := hji6
    have hji6z : a1 ≤ 32 → (a0 / 2 ^ a1.toNat) = ji6 := shr_small hji6
    obtain rfl := Option.some.inj H
    go_enter Try.func81, Try.ntmps81
    go_wp2
    go_ret
    exact ⟨by first | rfl | (simp; done) | (simp only [← hji6] <;> (first | rfl | simp)) | (simp [*]; done), by repeat (first | exact Drawn0.refl _ | apply Drawn0.step)⟩
   ·rw [if_neg c5] at H
    exact absurd H (by simp)
end Go.Proofs.Ytekenddkoahjgaa.Q
end
section
namespace Go.Proofs.Ytekenddkoahjgaa.Q
open Go.RowKit Go.Proofs.YtekenddkoahjgaaW.PrintWords Go.Proofs.YtekenddkoahjgaaW.PrintLast Go.Proofs.YtekenddkoahjgaaW.PrintMore
attribute [local go_sem] max2_int min2_int max_two min_two max_three min_three max_four min_four
attribute [local go_sem] imax_u32 imax_u8 isg_u32 isg_u8
set_option linter.unusedVariables false
set_option linter.unusedSimpArgs false
def whetstoneref01_may.f (a0 : Int) (a1 : Int) : Option (Bool) := if a0 ≥ 0 then (if a0 ≤ 31 then (if a1 ≥ 1 then (if a1 ≤ 32 then (some (decide ((wrap64 (a0 + a1)) ≤ 32))) else (some false)) else (some false)) else (some false)) else (some false)
set_option maxHeartbeats 8000000 in
set_option maxRecDepth 100000 in
theorem whetstoneref01_may.calls (a0 : Int) (a1 : Int) (r : Bool) (w : World) (h : whetstoneref01_may.f a0 a1 = some r) :
  Calls Try.prog 95 #[.int .i64 a0, .int .i64 a1] w fun e w' => e = .returned (.bool r) ∧ Drawn0 w w' := by
 have H : (if a0 ≥ 0 then (if a0 ≤ 31 then (if a1 ≥ 1 then (if a1 ≤ 32 then (some (decide ((wrap64 (a0 + a1)) ≤ 32))) else (some false)) else (some false)) else (some false)) else (some false)) = some r := h
 clear h
 by_cases c3 : a0 ≥ 0
 ·rw [if_pos c3] at H
  have c3b0 : decide (0 ≤ a0) = true := decide_eq_true c3
  clear c3
  by_cases c4 : a0 ≤ 31
  ·rw [if_pos c4] at H
   have c4b0 : decide (a0 ≤ 31) = true := decide_eq_true c4
   clear c4
   by_cases c5 : a1 ≥ 1
   ·rw [if_pos c5] at H
    have c5b0 : decide (1 ≤ a1) = true := decide_eq_true c5
    clear c5
    by_cases c6 : a1 ≤ 32
    ·rw [if_pos c6] at H
     have c6b0 : decide (a1 ≤ 32) = true := decide_eq_true c6
     clear c6
     obtain rfl := Option.some.inj H
     go_enter Try.func95, Try.ntmps95
     go_wp2
     go_ret
     exact ⟨by first | rfl | (simp; done) | (simp [*]; done), by repeat (first | exact Drawn0.refl _ | apply Drawn0.step)⟩
    ·rw [if_neg c6] at H
     have c6b0 : decide (a1 ≤ 32) = false := decide_eq_false c6
     clear c6
     obtain rfl := Option.some.inj H
     go_enter Try.func95, Try.ntmps95
     go_wp2
     go_ret
     exact ⟨by first | rfl | (simp; done) | (simp [*]; done), by repeat (first | exact Drawn0.refl _ | apply Drawn0.step)⟩
   ·rw [if_neg c5] at H
    have c5b0 : decide (1 ≤ a1) = false := decide_eq_false c5
    clear c5
    obtain rfl := Option.some.inj H
    go_enter Try.func95, Try.ntmps95
    go_wp2
    go_ret
    exact ⟨by first | rfl | (simp; done) | (simp [*]; done), by repeat (first | exact Drawn0.refl _ | apply Drawn0.step)⟩
  ·rw [if_neg c4] at H
   have c4b0 : decide (a0 ≤ 31) = false := decide_eq_false c4
   clear c4
   obtain rfl := Option.some.inj H
   go_enter Try.func95, Try.ntmps95
   go_wp2
   go_ret
   exact ⟨by first | rfl | (simp; done) | (simp [*]; done), by repeat (first | exact Drawn0.refl _ | apply Drawn0.step)⟩
 ·rw [if_neg c3] at H
  have c3b0 : decide (0 ≤ a0) = false := decide_eq_false c3
  clear c3
  obtain rfl := Option.some.inj H
  go_enter Try.func95, Try.ntmps95
  go_wp2
  go_ret
  exact ⟨by first | rfl | (simp; done) | (simp [*]; done), by repeat (first | exact Drawn0.refl _ | apply Drawn0.step)⟩
def whetstoneref01_Of.l0 : Nat → List Int → Int → Int → Option (Int)
 | 0, _, _, _ => none
 | k + 1, x0, x3, x4 => if x4 ≥ 0 then (if 0 ≤ x4 then (if x4 < (x0.length : Int) then (whetstoneref01_Of.l0 k x0 (((x3 * 2) + (rd x0 x4)) % 4294967296) (wrap64 (x4 - 1))) else (none)) else (none)) else (some x3)
def whetstoneref01_Of.f (k : Nat) (l0 : List Int) : Option (Int) := whetstoneref01_Of.l0 k l0 0 31
set_option maxHeartbeats 8000000 in
set_option maxRecDepth 100000 in
theorem whetstoneref01_Of.calls (k : Nat) (A0 : Option Addr) (c0 : Nat) (l0 : List Int) (r : Int) (w : World) (hr0 : Kd.C (Kd.int .u32) w A0 l0.length l0) (hc0 : l0.length ≤ c0) (h : whetstoneref01_Of.f k l0 = some r) :
  Calls Try.prog 96 #[.slice A0 l0.length c0] w fun e w' => e = .returned (.int .u32 r) ∧ Drawn0 w w' := by
 have HR0 := Aside0.mk hr0
 have HC0 := Aside0.mk hc0
 clear hr0 hc0
 have H : (whetstoneref01_Of.l0 k l0 0 31) = some r := h
 clear h
 have H' := Aside0.mk H
 clear H
 go_enter Try.func96, Try.ntmps96
 go_wp2
 go_loopg [3, 4] k (fun kq v3 v4 w' => ∃ (x3_1 : Int) (x4_1 : Int), v3 = .int .u32 x3_1 ∧ v4 = .int .i64 x4_1 ∧ Aside0 (whetstoneref01_Of.l0 kq l0 x3_1 x4_1 = some r) ∧ Aside0 (kq ≤ k) ∧ Drawn0 w w')
 case atStart => exact ⟨(0), (31), (by first | rfl | (simp; done) | (simp [*]; done)), (by first | rfl | (simp; done) | (simp [*]; done)), H', ⟨Nat.le_refl _⟩, by repeat (first | exact Drawn0.refl _ | apply Drawn0.step)⟩
 case round =>
  clear H'
  obtain ⟨x3_1, x4_1, rfl, rfl, HA, HK1, ⟨m1, rfl⟩⟩ := hrel
  cases gk with
  | zero => exact absurd HA.out (by simp [whetstoneref01_Of.l0])
  | succ k1 =>
   have H := HA.out
   clear HA
   simp only [whetstoneref01_Of.l0] at H
   by_cases c2 : x4_1 ≥ 0
   ·rw [if_pos c2] at H
    have c2b0 : decide (0 ≤ x4_1) = true := decide_eq_true c2
    clear c2
    by_cases c3 : 0 ≤ x4_1
    ·rw [if_pos c3] at H
     have c3b0 : decide (0 ≤ x4_1) = true := decide_eq_true c3
     clear c3
     by_cases c4 : x4_1 < (l0.length : Int)
     ·rw [if_pos c4] at H
      have c4b0 : decide (x4_1 < (l0.length : Int)) = true := decide_eq_true c4
      clear c4
      have H' := Aside0.mk H
      clear H
      have p130 : 0 ≤ (x4_1 : Int) := of_decide_eq_true zzm
      have q130 : x4_1 < (l0.length : Int) := of_decide_eq_true zzm
      obtain ⟨ad130, e130, hx130_0⟩ := Kd.at_int HR0.out x4_1 p130 q130
      cases e130
      replace p130 := eq_true p130
      replace q130 := eq_true q130
      go_wp2
      go_roundg k1
      case measure => have := HK1.out; omega
      case rel => exact ⟨(((x3_1 * 2) + (rd l0 x4_1)) % 4294967296), (wrap64 (x4_1 - 1)), (by first | rfl | (simp; done) | (simp [*]; done)), (by first | rfl | (simp; done) | (simp [*]; done)), H', ⟨by have := HK1.out; omega⟩, by repeat (first | exact Drawn0.refl _ | apply Drawn0.step)⟩
     ·rw [if_neg c4] at H
      exact absurd H (by simp)
    ·rw [if_neg c3] at H
     exact absurd H (by simp)
   ·rw [if_neg c2] at H
    have c2b0 : decide (0 ≤ x4_1) = false := decide_eq_false c2
    clear c2
    obtain rfl := Option.some.inj H
    go_wp2
    go_ret
    exact ⟨by first | rfl | (simp; done) | (simp [*]; done), by repeat (first | exact Drawn0.refl _ | apply Drawn0.step)⟩
end Go.Proofs.Ytekenddkoahjgaa.Q
end
