import Derived.Test.YtekenddkoahjgaaUQx0
import Derived.Test.YtekenddkoahjgaaUQx11
namespace Go.Proofs.Ytekenddkoahjgaa.Q
open Go.RowKit Go.Proofs.YtekenddkoahjgaaW.PrintWords Go.Proofs.YtekenddkoahjgaaW.PrintLast Go.Proofs.YtekenddkoahjgaaW.PrintMore
attribute [local go_sem] max2_int min2_int max_two min_two max_three min_three max_four min_four   -- for this text's walks alone
attribute [local go_sem] imax_u32 imax_u8 isg_u32 isg_u8
set_option linter.unusedVariables false
set_option linter.unusedSimpArgs false
def whetstoneref02_in.l0 : Nat → Int → ByteArray → Int → Option (Bool)
 | 0, _, _, _ => none
 | k + 1, x0, x1, x5 => if x5 < (x1.size : Int) then (if 0 ≤ x5 then (if (bt x1 x5) = x0 then (some true) else (whetstoneref02_in.l0 k x0 x1 (wrap64 (x5 + 1)))) else (none)) else (some false)
def whetstoneref02_in.f (k : Nat) (a0 : Int) (a1 : ByteArray) : Option (Bool) := whetstoneref02_in.l0 k a0 a1 0
set_option maxHeartbeats 8000000 in
set_option maxRecDepth 100000 in
theorem whetstoneref02_in.calls (k : Nat) (a0 : Int) (a1 : ByteArray) (r : Bool) (w : World) (h : whetstoneref02_in.f k a0 a1 = some r) :
  Calls Try.prog 54 #[.int .u8 a0, .string a1] w fun e w' => e = .returned (.bool r) ∧ Drawn0 w w' := by
 have H : (whetstoneref02_in.l0 k a0 a1 0) = some r := h
 clear h
 have H' := Aside0.mk H
 clear H
 go_enter Try.func54, Try.ntmps54
 go_wp2
 go_loopg [5] k (fun kq v5 w' => ∃ (x5_1 : Int), v5 = .int .i64 x5_1 ∧ Aside0 (whetstoneref02_in.l0 kq a0 a1 x5_1 = some r) ∧ Aside0 (kq ≤ k) ∧ Drawn0 w w')
 case atStart => exact ⟨(0), (by first | rfl | (simp; done) | (simp [*]; done)), H', ⟨Nat.le_refl _⟩, by repeat (first | exact Drawn0.refl _ | apply Drawn0.step)⟩
 case round =>
  clear H'
  try clear p2
  obtain ⟨x5_1, rfl, HA, HK1, ⟨m1, rfl⟩⟩ := hrel
  cases gk with
  | zero => exact absurd HA.out (by simp [whetstoneref02_in.l0])
  | succ k1 =>
   have H := HA.out
   clear HA
   simp only [whetstoneref02_in.l0] at H
   by_cases c3 : x5_1 < (a1.size : Int)
   ·rw [if_pos c3] at H
    have c3b0 : decide (x5_1 < (a1.size : Int)) = true := decide_eq_true c3
    clear c3
    by_cases c4 : 0 ≤ x5_1
    ·rw [if_pos c4] at H
     have c4b0 : decide (0 ≤ x5_1) = true := decide_eq_true c4
     clear c4
     by_cases c6 : (bt a1 x5_1) = a0
     ·rw [if_pos c6] at H
      have c6b0 : ((bt a1 x5_1) == a0) = true := beq_iff_eq.mpr c6
      have c6b1 : ((bt a1 x5_1) != a0) = false := bne_eq_false_iff_eq.mpr c6
      clear c6
      obtain rfl := Option.some.inj H
      have p5 : 0 ≤ (x5_1 : Int) := of_decide_eq_true (by first | (with_reducible assumption) | assumption)
      have q5 : x5_1 < (a1.size : Int) := of_decide_eq_true (by first | (with_reducible assumption) | assumption)
      have hx5 := bt_at a1 x5_1
      replace p5 := eq_true p5
      replace q5 := eq_true q5
      go_wp2
      go_ret
      exact ⟨by first | rfl | (simp; done) | (simp [*]; done), by repeat (first | exact Drawn0.refl _ | apply Drawn0.step)⟩
     ·rw [if_neg c6] at H
      have c6b0 : ((bt a1 x5_1) == a0) = false := beq_eq_false_iff_ne.mpr c6
      have c6b1 : ((bt a1 x5_1) != a0) = true := bne_iff_ne.mpr c6
      have H' := Aside0.mk H
      clear H
      have p5 : 0 ≤ (x5_1 : Int) := of_decide_eq_true (by first | (with_reducible assumption) | assumption)
      have q5 : x5_1 < (a1.size : Int) := of_decide_eq_true (by first | (with_reducible assumption) | assumption)
      have hx5 := bt_at a1 x5_1
      replace p5 := eq_true p5
      replace q5 := eq_true q5
      go_wp2
      go_roundg k1
      case measure => have := HK1.out; omega
      case rel => exact ⟨(wrap64 (x5_1 + 1)), (by first | rfl | (simp; done) | (simp [*]; done)), H', ⟨by have := HK1.out; omega⟩, by repeat (first | exact Drawn0.refl _ | apply Drawn0.step)⟩
    ·rw [if_neg c4] at H
     exact absurd H (by simp)
   ·rw [if_neg c3] at H
    have c3b0 : decide (x5_1 < (a1.size : Int)) = false := decide_eq_false c3
    clear c3
    obtain rfl := Option.some.inj H
    go_wp2
    go_ret
    exact ⟨by first | rfl | (simp; done) | (simp [*]; done), by repeat (first | exact Drawn0.refl _ | apply Drawn0.step)⟩
def whetstoneref02_Right.f (k : Nat) (a0 a1 a2 a3 a4 : Int) : Option (Bool) := (whetstoneref02_Form.f a0).bind fun t1 => (whetstoneref02_span.f k t1).bind fun t2 => if t1 = 0 then some false else (whetstoneref02_in.f k t1 (⟨#[85, 74, 73, 72, 82]⟩ : ByteArray)).bind fun b1 => (whetstoneref02_reg.f a1 b1).bind fun c1 => if c1 = true then (whetstoneref02_in.f k t1 (⟨#[73, 72, 66, 83, 82]⟩ : ByteArray)).bind fun b2 => (whetstoneref02_reg.f a2 b2).bind fun c2 => if c2 = true then (whetstoneref02_in.f k t1 (⟨#[66, 83, 82]⟩ : ByteArray)).bind fun b3 => (whetstoneref02_reg.f a3 b3).bind fun c3 => if c3 = true then if a4 ≥ t2.1 then if a4 ≤ t2.2.1 then if t2.2.2 = 0 then none else some ((Int.tmod a4 t2.2.2) == 0) else some false else some false else some false else some false else some false
theorem quietA {P : Program} {f : FuncId} {args : Array Value} {w : World} {a n : Nat} {v : Value} (h : Calls P f args (w.drewN (a + n)) fun e w' => e = .returned v ∧ Drawn0 (w.drewN (a + n)) w') : Calls P f args (w.drewN (a + n)) fun e w'' => e = .returned v ∧ ∃ m, w'' = w.drewN (a + m) :=
 h.mono fun _ _ ⟨he, ⟨m, hm⟩⟩ => ⟨he, n + m, by rw [hm, World.drewN_drewN, Nat.add_assoc]⟩
theorem right_below (w : World) (O : Obj) (a : Nat) : Below w.heap.size w ((w.alloc O).drewN a) := pw_below_drewN (below_alloc (Below.refl _ _) O) a
set_option maxHeartbeats 3200000 in
set_option maxRecDepth 100000 in
theorem whetstoneref02_Right.calls (k : Nat) (a0 a1 a2 a3 a4 : Int) (r : Bool) (w : World) (h : whetstoneref02_Right.f k a0 a1 a2 a3 a4 = some r) :
  Calls Try.prog 30 #[.agg #[.int .i64 a0, .int .i64 a1, .int .i64 a2, .int .i64 a3, .int .i64 a4]] w fun e w' => e = .returned (.bool r) ∧ Below w.heap.size w w' := by
 have hu24 := Try.underlying23
 unfold whetstoneref02_Right.f at h
 obtain ⟨t1, A1, h⟩ := Option.bind_eq_some_iff.mp h
 obtain ⟨⟨t2, t3, t4⟩, A2, h⟩ := Option.bind_eq_some_iff.mp h
 replace A1 := Aside0.mk A1
 replace A2 := Aside0.mk A2
 simp only at h
 by_cases c0 : t1 = 0
 ·rw [if_pos c0] at h
  have d0 : (t1 != 0) = false := bne_eq_false_iff_eq.mpr c0
  clear c0
  obtain rfl := Option.some.inj h
  clear h
  go_enter Try.func30, Try.ntmps30
  go_wp2_with (first | (go_at_call 31; (with_reducible refine (whetstoneref02_Form.calls _ _ _ A1.out).mono ?_); rintro e w' ⟨rfl, ⟨⟨nd, rfl⟩⟩⟩) | (go_at_call 52; (with_reducible refine (whetstoneref02_span.calls _ _ _ _ _ _ A2.out).mono ?_); rintro e w' ⟨rfl, ⟨⟨nd2, rfl⟩⟩⟩))
  go_quiet (fail)
  go_wp2
  go_ret
  exact ⟨rfl, pw_below_drewN (right_below _ _ _) _⟩
 rw [if_neg c0] at h
 have d0 : (t1 != 0) = true := bne_iff_ne.mpr c0
 clear c0
 obtain ⟨b1, B1, h⟩ := Option.bind_eq_some_iff.mp h
 obtain ⟨c1, C1, h⟩ := Option.bind_eq_some_iff.mp h
 replace B1 := Aside0.mk B1
 replace C1 := Aside0.mk C1
 cases c1
 ·rw [if_neg (by decide)] at h
  obtain rfl := Option.some.inj h
  clear h
  go_enter Try.func30, Try.ntmps30
  go_wp2_with (first | (go_at_call 31; (with_reducible refine (whetstoneref02_Form.calls _ _ _ A1.out).mono ?_); rintro e w' ⟨rfl, ⟨⟨nd, rfl⟩⟩⟩) | (go_at_call 52; (with_reducible refine (whetstoneref02_span.calls _ _ _ _ _ _ A2.out).mono ?_); rintro e w' ⟨rfl, ⟨⟨nd2, rfl⟩⟩⟩))
  go_quiet (first | (go_at_call 54; exact quietA (whetstoneref02_in.calls _ _ _ _ _ B1.out)) | (go_at_call 53; exact quietA (whetstoneref02_reg.calls _ _ _ _ C1.out)))
  go_wp2
  go_ret
  exact ⟨rfl, pw_below_drewN (right_below _ _ _) _⟩
 rw [if_pos rfl] at h
 obtain ⟨b2, B2, h⟩ := Option.bind_eq_some_iff.mp h
 obtain ⟨c2, C2, h⟩ := Option.bind_eq_some_iff.mp h
 replace B2 := Aside0.mk B2
 replace C2 := Aside0.mk C2
 cases c2
 ·rw [if_neg (by decide)] at h
  obtain rfl := Option.some.inj h
  clear h
  go_enter Try.func30, Try.ntmps30
  go_wp2_with (first | (go_at_call 31; (with_reducible refine (whetstoneref02_Form.calls _ _ _ A1.out).mono ?_); rintro e w' ⟨rfl, ⟨⟨nd, rfl⟩⟩⟩) | (go_at_call 52; (with_reducible refine (whetstoneref02_span.calls _ _ _ _ _ _ A2.out).mono ?_); rintro e w' ⟨rfl, ⟨⟨nd2, rfl⟩⟩⟩))
  go_quiet (first | (go_at_call 54; exact quietA (whetstoneref02_in.calls _ _ _ _ _ B1.out)) | (go_at_call 53; exact quietA (whetstoneref02_reg.calls _ _ _ _ C1.out)) | (go_at_call 54; exact quietA (whetstoneref02_in.calls _ _ _ _ _ B2.out)) | (go_at_call 53; exact quietA (whetstoneref02_reg.calls _ _ _ _ C2.out)))
  go_wp2
  go_ret
  exact ⟨rfl, pw_below_drewN (right_below _ _ _) _⟩
 rw [if_pos rfl] at h
 obtain ⟨b3, B3, h⟩ := Option.bind_eq_some_iff.mp h
 obtain ⟨c3, C3, h⟩ := Option.bind_eq_some_iff.mp h
 replace B3 := Aside0.mk B3
 replace C3 := Aside0.mk C3
 cases c3
 ·rw [if_neg (by decide)] at h
  obtain rfl := Option.some.inj h
  clear h
  go_enter Try.func30, Try.ntmps30
  go_wp2_with (first | (go_at_call 31; (with_reducible refine (whetstoneref02_Form.calls _ _ _ A1.out).mono ?_); rintro e w' ⟨rfl, ⟨⟨nd, rfl⟩⟩⟩) | (go_at_call 52; (with_reducible refine (whetstoneref02_span.calls _ _ _ _ _ _ A2.out).mono ?_); rintro e w' ⟨rfl, ⟨⟨nd2, rfl⟩⟩⟩))
  go_quiet (first | (go_at_call 54; exact quietA (whetstoneref02_in.calls _ _ _ _ _ B1.out)) | (go_at_call 53; exact quietA (whetstoneref02_reg.calls _ _ _ _ C1.out)) | (go_at_call 54; exact quietA (whetstoneref02_in.calls _ _ _ _ _ B2.out)) | (go_at_call 53; exact quietA (whetstoneref02_reg.calls _ _ _ _ C2.out)) | (go_at_call 54; exact quietA (whetstoneref02_in.calls _ _ _ _ _ B3.out)) | (go_at_call 53; exact quietA (whetstoneref02_reg.calls _ _ _ _ C3.out)))
  go_wp2
  go_ret
  exact ⟨rfl, pw_below_drewN (right_below _ _ _) _⟩
 rw [if_pos rfl] at h
 by_cases c5 : a4 ≥ t2
 rotate_left
 ·rw [if_neg c5] at h
  have d5 : decide (t2 ≤ a4) = false := decide_eq_false c5
  clear c5
  obtain rfl := Option.some.inj h
  clear h
  go_enter Try.func30, Try.ntmps30
  go_wp2_with (first | (go_at_call 31; (with_reducible refine (whetstoneref02_Form.calls _ _ _ A1.out).mono ?_); rintro e w' ⟨rfl, ⟨⟨nd, rfl⟩⟩⟩) | (go_at_call 52; (with_reducible refine (whetstoneref02_span.calls _ _ _ _ _ _ A2.out).mono ?_); rintro e w' ⟨rfl, ⟨⟨nd2, rfl⟩⟩⟩))
  go_quiet (first | (go_at_call 54; exact quietA (whetstoneref02_in.calls _ _ _ _ _ B1.out)) | (go_at_call 53; exact quietA (whetstoneref02_reg.calls _ _ _ _ C1.out)) | (go_at_call 54; exact quietA (whetstoneref02_in.calls _ _ _ _ _ B2.out)) | (go_at_call 53; exact quietA (whetstoneref02_reg.calls _ _ _ _ C2.out)) | (go_at_call 54; exact quietA (whetstoneref02_in.calls _ _ _ _ _ B3.out)) | (go_at_call 53; exact quietA (whetstoneref02_reg.calls _ _ _ _ C3.out)))
  go_wp2
  go_ret
  exact ⟨rfl, pw_below_drewN (right_below _ _ _) _⟩
 rw [if_pos c5] at h
 have d5 : decide (t2 ≤ a4) = true := decide_eq_true c5
 clear c5
 by_cases c6 : a4 ≤ t3
 rotate_left
 ·rw [if_neg c6] at h
  have d6 : decide (a4 ≤ t3) = false := decide_eq_false c6
  clear c6
  obtain rfl := Option.some.inj h
  clear h
  go_enter Try.func30, Try.ntmps30
  go_wp2_with (first | (go_at_call 31; (with_reducible refine (whetstoneref02_Form.calls _ _ _ A1.out).mono ?_); rintro e w' ⟨rfl, ⟨⟨nd, rfl⟩⟩⟩) | (go_at_call 52; (with_reducible refine (whetstoneref02_span.calls _ _ _ _ _ _ A2.out).mono ?_); rintro e w' ⟨rfl, ⟨⟨nd2, rfl⟩⟩⟩))
  go_quiet (first | (go_at_call 54; exact quietA (whetstoneref02_in.calls _ _ _ _ _ B1.out)) | (go_at_call 53; exact quietA (whetstoneref02_reg.calls _ _ _ _ C1.out)) | (go_at_call 54; exact quietA (whetstoneref02_in.calls _ _ _ _ _ B2.out)) | (go_at_call 53; exact quietA (whetstoneref02_reg.calls _ _ _ _ C2.out)) | (go_at_call 54; exact quietA (whetstoneref02_in.calls _ _ _ _ _ B3.out)) | (go_at_call 53; exact quietA (whetstoneref02_reg.calls _ _ _ _ C3.out)))
  go_wp2
  go_ret
  exact ⟨rfl, pw_below_drewN (right_below _ _ _) _⟩
 rw [if_pos c6] at h
 have d6 : decide (a4 ≤ t3) = true := decide_eq_true c6
 clear c6
 by_cases c7 : t4 = 0
 ·rw [if_pos c7] at h
  cases h
 rw [if_neg c7] at h
 obtain rfl := Option.some.inj h
 clear h
 have d7 : (t4 == 0) = false := beq_eq_false_iff_ne.mpr c7
 go_enter Try.func30, Try.ntmps30
 go_wp2_with (first | (go_at_call 31; (with_reducible refine (whetstoneref02_Form.calls _ _ _ A1.out).mono ?_); rintro e w' ⟨rfl, ⟨⟨nd, rfl⟩⟩⟩) | (go_at_call 52; (with_reducible refine (whetstoneref02_span.calls _ _ _ _ _ _ A2.out).mono ?_); rintro e w' ⟨rfl, ⟨⟨nd2, rfl⟩⟩⟩))
 go_quiet (first | (go_at_call 54; exact quietA (whetstoneref02_in.calls _ _ _ _ _ B1.out)) | (go_at_call 53; exact quietA (whetstoneref02_reg.calls _ _ _ _ C1.out)) | (go_at_call 54; exact quietA (whetstoneref02_in.calls _ _ _ _ _ B2.out)) | (go_at_call 53; exact quietA (whetstoneref02_reg.calls _ _ _ _ C2.out)) | (go_at_call 54; exact quietA (whetstoneref02_in.calls _ _ _ _ _ B3.out)) | (go_at_call 53; exact quietA (whetstoneref02_reg.calls _ _ _ _ C3.out)))
 go_wp2
 go_ret
 exact ⟨rfl, pw_below_drewN (right_below _ _ _) _⟩
end Go.Proofs.Ytekenddkoahjgaa.Q
