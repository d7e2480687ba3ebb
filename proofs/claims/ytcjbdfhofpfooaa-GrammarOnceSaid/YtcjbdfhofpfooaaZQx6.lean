import Derived.Test.YtcjbdfhofpfooaaZQx0
import Derived.Test.YtcjbdfhofpfooaaZQx1
import Derived.Test.YtcjbdfhofpfooaaZQx4
import Derived.Test.YtcjbdfhofpfooaaZQx5
-- Written by this session's own driver (wip/tools/ownprint.py) over the kit's print: walks of the translated Go, each function once.
namespace Go.Proofs.Ytcjbdfhofpfooaa.Q
open Go.RowKit Go.Proofs.YtcjbdfhofpfooaaW.PrintWords Go.Proofs.YtcjbdfhofpfooaaW.PrintLast Go.Proofs.YtcjbdfhofpfooaaW.PrintMore
attribute [local go_sem] max2_int min2_int max_two min_two max_three min_three max_four min_four   -- for this text's walks alone
attribute [local go_sem] imax_u32 imax_u8 isg_u32 isg_u8
set_option linter.unusedVariables false
set_option linter.unusedSimpArgs false

attribute [local go_sem high] eqA25
/-! ### whetstoneref02_Right: function 30 -/
def whetstoneref02_Right.f (k : Nat) (a0 a1 a2 a3 a4 : Int) : Option (Bool) := (whetstoneref02_Form.f a0).bind fun t1 => (whetstoneref02_span.f k t1).bind fun t2 => if t1 = 0 then some false else (whetstoneref02_in.f k t1 (⟨#[85, 74, 73, 72, 82]⟩ : ByteArray)).bind fun b1 => (whetstoneref02_reg.f a1 b1).bind fun c1 => if c1 = true then (whetstoneref02_in.f k t1 (⟨#[73, 72, 66, 83, 82]⟩ : ByteArray)).bind fun b2 => (whetstoneref02_reg.f a2 b2).bind fun c2 => if c2 = true then (whetstoneref02_in.f k t1 (⟨#[66, 83, 82]⟩ : ByteArray)).bind fun b3 => (whetstoneref02_reg.f a3 b3).bind fun c3 => if c3 = true then if a4 ≥ t2.1 then if a4 ≤ t2.2.1 then if t2.2.2 = 0 then none else some ((Int.tmod a4 t2.2.2) == 0) else some false else some false else some false else some false else some false
theorem whetstoneref02_Right.mono : ∀ a0 a1 a2 a3 a4 k, LeO (whetstoneref02_Right.f k a0 a1 a2 a3 a4) (whetstoneref02_Right.f (k + 1) a0 a1 a2 a3 a4) := by
  intro a0 a1 a2 a3 a4 k
  unfold whetstoneref02_Right.f
  repeat' first
      | (with_reducible exact whetstoneref02_in.mono _ _ _)
      | (with_reducible exact whetstoneref02_span.mono _ _)
      | (with_reducible exact LeO.refl _)
      | (with_reducible exact LeO.none _)
      | (with_reducible refine LeO.ite ?_ ?_)
      | (with_reducible refine LeO.bind ?_ (fun _ => ?_))
theorem quietA {P : Program} {f : FuncId} {args : Array Value} {w : World} {a n : Nat} {v : Value} (h : Calls P f args (w.drewN (a + n)) fun e w' => e = .returned v ∧ Drawn0 (w.drewN (a + n)) w') : Calls P f args (w.drewN (a + n)) fun e w'' => e = .returned v ∧ ∃ m, w'' = w.drewN (a + m) :=
  h.mono fun _ _ ⟨he, ⟨m, hm⟩⟩ => ⟨he, n + m, by rw [hm, World.drewN_drewN, Nat.add_assoc]⟩
theorem right_below (w : World) (O : Obj) (a : Nat) : Below w.heap.size w ((w.alloc O).drewN a) := pw_below_drewN (below_alloc (Below.refl _ _) O) a
set_option maxHeartbeats 3200000 in
set_option maxRecDepth 100000 in
theorem whetstoneref02_Right.calls (k : Nat) (a0 a1 a2 a3 a4 : Int) (r : Bool) (w : World) (h : whetstoneref02_Right.f k a0 a1 a2 a3 a4 = some r) :
    Calls Try.prog 30 #[.agg #[.int .i64 a0, .int .i64 a1, .int .i64 a2, .int .i64 a3, .int .i64 a4]] w fun e w' => e = .returned (.bool r) ∧ Below w.heap.size w w' := by
  have hu24 := Try.underlying25
  unfold whetstoneref02_Right.f at h
  obtain ⟨t1, A1, h⟩ := Option.bind_eq_some_iff.mp h
  obtain ⟨⟨t2, t3, t4⟩, A2, h⟩ := Option.bind_eq_some_iff.mp h
  replace A1 := Aside0.mk A1
  replace A2 := Aside0.mk A2
  simp only at h
  by_cases c0 : t1 = 0
  · rw [if_pos c0] at h
    have d0 : (t1 != 0) = false := bne_eq_false_iff_eq.mpr c0
    clear c0
    obtain rfl := Option.some.inj h
    clear h
    go_enter Try.func30, Try.ntmps30
    go_wp2_with (first | (go_at_call 47; (with_reducible refine (whetstoneref02_Form.calls _ _ _ A1.out).mono ?_); rintro e w' ⟨rfl, ⟨⟨nd, rfl⟩⟩⟩) | (go_at_call 48; (with_reducible refine (whetstoneref02_span.calls _ _ _ _ _ _ A2.out).mono ?_); rintro e w' ⟨rfl, ⟨⟨nd2, rfl⟩⟩⟩))
    go_quiet (fail)
    go_wp2
    go_ret
    exact ⟨rfl, pw_below_drewN (right_below _ _ _) _⟩
  rw [if_neg c0] at h
  have d0 : (t1 != 0) = true := bne_iff_ne.mpr c0
  clear c0
  obtain ⟨b1, B1, h⟩ := Option.bind_eq_some_iff.mp h
  obtain ⟨c1, C1, h⟩ := Option.bind_eq_some_iff.mp h
  replace B1 := Aside0.mk B1
  replace C1 := Aside0.mk C1
  cases c1
  · rw [if_neg (by decide)] at h
    obtain rfl := Option.some.inj h
    clear h
    go_enter Try.func30, Try.ntmps30
    go_wp2_with (first | (go_at_call 47; (with_reducible refine (whetstoneref02_Form.calls _ _ _ A1.out).mono ?_); rintro e w' ⟨rfl, ⟨⟨nd, rfl⟩⟩⟩) | (go_at_call 48; (with_reducible refine (whetstoneref02_span.calls _ _ _ _ _ _ A2.out).mono ?_); rintro e w' ⟨rfl, ⟨⟨nd2, rfl⟩⟩⟩))
    go_quiet (first | (go_at_call 50; exact quietA (whetstoneref02_in.calls _ _ _ _ _ B1.out)) | (go_at_call 49; exact quietA (whetstoneref02_reg.calls _ _ _ _ C1.out)))
    go_wp2
    go_ret
    exact ⟨rfl, pw_below_drewN (right_below _ _ _) _⟩
  rw [if_pos rfl] at h
  obtain ⟨b2, B2, h⟩ := Option.bind_eq_some_iff.mp h
  obtain ⟨c2, C2, h⟩ := Option.bind_eq_some_iff.mp h
  replace B2 := Aside0.mk B2
  replace C2 := Aside0.mk C2
  cases c2
  · rw [if_neg (by decide)] at h
    obtain rfl := Option.some.inj h
    clear h
    go_enter Try.func30, Try.ntmps30
    go_wp2_with (first | (go_at_call 47; (with_reducible refine (whetstoneref02_Form.calls _ _ _ A1.out).mono ?_); rintro e w' ⟨rfl, ⟨⟨nd, rfl⟩⟩⟩) | (go_at_call 48; (with_reducible refine (whetstoneref02_span.calls _ _ _ _ _ _ A2.out).mono ?_); rintro e w' ⟨rfl, ⟨⟨nd2, rfl⟩⟩⟩))
    go_quiet (first | (go_at_call 50; exact quietA (whetstoneref02_in.calls _ _ _ _ _ B1.out)) | (go_at_call 49; exact quietA (whetstoneref02_reg.calls _ _ _ _ C1.out)) | (go_at_call 50; exact quietA (whetstoneref02_in.calls _ _ _ _ _ B2.out)) | (go_at_call 49; exact quietA (whetstoneref02_reg.calls _ _ _ _ C2.out)))
    go_wp2
    go_ret
    exact ⟨rfl, pw_below_drewN (right_below _ _ _) _⟩
  rw [if_pos rfl] at h
  obtain ⟨b3, B3, h⟩ := Option.bind_eq_some_iff.mp h
  obtain ⟨c3, C3, h⟩ := Option.bind_eq_some_iff.mp h
  replace B3 := Aside0.mk B3
  replace C3 := Aside0.mk C3
  cases c3
  · rw [if_neg (by decide)] at h
    obtain rfl := Option.some.inj h
    clear h
    go_enter Try.func30, Try.ntmps30
    go_wp2_with (first | (go_at_call 47; (with_reducible refine (whetstoneref02_Form.calls _ _ _ A1.out).mono ?_); rintro e w' ⟨rfl, ⟨⟨nd, rfl⟩⟩⟩) | (go_at_call 48; (with_reducible refine (whetstoneref02_span.calls _ _ _ _ _ _ A2.out).mono ?_); rintro e w' ⟨rfl, ⟨⟨nd2, rfl⟩⟩⟩))
    go_quiet (first | (go_at_call 50; exact quietA (whetstoneref02_in.calls _ _ _ _ _ B1.out)) | (go_at_call 49; exact quietA (whetstoneref02_reg.calls _ _ _ _ C1.out)) | (go_at_call 50; exact quietA (whetstoneref02_in.calls _ _ _ _ _ B2.out)) | (go_at_call 49; exact quietA (whetstoneref02_reg.calls _ _ _ _ C2.out)) | (go_at_call 50; exact quietA (whetstoneref02_in.calls _ _ _ _ _ B3.out)) | (go_at_call 49; exact quietA (whetstoneref02_reg.calls _ _ _ _ C3.out)))
    go_wp2
    go_ret
    exact ⟨rfl, pw_below_drewN (right_below _ _ _) _⟩
  rw [if_pos rfl] at h
  by_cases c5 : a4 ≥ t2
  rotate_left
  · rw [if_neg c5] at h
    have d5 : decide (t2 ≤ a4) = false := decide_eq_false c5
    clear c5
    obtain rfl := Option.some.inj h
    clear h
    go_enter Try.func30, Try.ntmps30
    go_wp2_with (first | (go_at_call 47; (with_reducible refine (whetstoneref02_Form.calls _ _ _ A1.out).mono ?_); rintro e w' ⟨rfl, ⟨⟨nd, rfl⟩⟩⟩) | (go_at_call 48; (with_reducible refine (whetstoneref02_span.calls _ _ _ _ _ _ A2.out).mono ?_); rintro e w' ⟨rfl, ⟨⟨nd2, rfl⟩⟩⟩))
    go_quiet (first | (go_at_call 50; exact quietA (whetstoneref02_in.calls _ _ _ _ _ B1.out)) | (go_at_call 49; exact quietA (whetstoneref02_reg.calls _ _ _ _ C1.out)) | (go_at_call 50; exact quietA (whetstoneref02_in.calls _ _ _ _ _ B2.out)) | (go_at_call 49; exact quietA (whetstoneref02_reg.calls _ _ _ _ C2.out)) | (go_at_call 50; exact quietA (whetstoneref02_in.calls _ _ _ _ _ B3.out)) | (go_at_call 49; exact quietA (whetstoneref02_reg.calls _ _ _ _ C3.out)))
    go_wp2
    go_ret
    exact ⟨rfl, pw_below_drewN (right_below _ _ _) _⟩
  rw [if_pos c5] at h
  have d5 : decide (t2 ≤ a4) = true := decide_eq_true c5
  clear c5
  by_cases c6 : a4 ≤ t3
  rotate_left
  · rw [if_neg c6] at h
    have d6 : decide (a4 ≤ t3) = false := decide_eq_false c6
    clear c6
    obtain rfl := Option.some.inj h
    clear h
    go_enter Try.func30, Try.ntmps30
    go_wp2_with (first | (go_at_call 47; (with_reducible refine (whetstoneref02_Form.calls _ _ _ A1.out).mono ?_); rintro e w' ⟨rfl, ⟨⟨nd, rfl⟩⟩⟩) | (go_at_call 48; (with_reducible refine (whetstoneref02_span.calls _ _ _ _ _ _ A2.out).mono ?_); rintro e w' ⟨rfl, ⟨⟨nd2, rfl⟩⟩⟩))
    go_quiet (first | (go_at_call 50; exact quietA (whetstoneref02_in.calls _ _ _ _ _ B1.out)) | (go_at_call 49; exact quietA (whetstoneref02_reg.calls _ _ _ _ C1.out)) | (go_at_call 50; exact quietA (whetstoneref02_in.calls _ _ _ _ _ B2.out)) | (go_at_call 49; exact quietA (whetstoneref02_reg.calls _ _ _ _ C2.out)) | (go_at_call 50; exact quietA (whetstoneref02_in.calls _ _ _ _ _ B3.out)) | (go_at_call 49; exact quietA (whetstoneref02_reg.calls _ _ _ _ C3.out)))
    go_wp2
    go_ret
    exact ⟨rfl, pw_below_drewN (right_below _ _ _) _⟩
  rw [if_pos c6] at h
  have d6 : decide (a4 ≤ t3) = true := decide_eq_true c6
  clear c6
  by_cases c7 : t4 = 0
  · rw [if_pos c7] at h
    cases h
  rw [if_neg c7] at h
  obtain rfl := Option.some.inj h
  clear h
  have d7 : (t4 == 0) = false := beq_eq_false_iff_ne.mpr c7
  go_enter Try.func30, Try.ntmps30
  go_wp2_with (first | (go_at_call 47; (with_reducible refine (whetstoneref02_Form.calls _ _ _ A1.out).mono ?_); rintro e w' ⟨rfl, ⟨⟨nd, rfl⟩⟩⟩) | (go_at_call 48; (with_reducible refine (whetstoneref02_span.calls _ _ _ _ _ _ A2.out).mono ?_); rintro e w' ⟨rfl, ⟨⟨nd2, rfl⟩⟩⟩))
  go_quiet (first | (go_at_call 50; exact quietA (whetstoneref02_in.calls _ _ _ _ _ B1.out)) | (go_at_call 49; exact quietA (whetstoneref02_reg.calls _ _ _ _ C1.out)) | (go_at_call 50; exact quietA (whetstoneref02_in.calls _ _ _ _ _ B2.out)) | (go_at_call 49; exact quietA (whetstoneref02_reg.calls _ _ _ _ C2.out)) | (go_at_call 50; exact quietA (whetstoneref02_in.calls _ _ _ _ _ B3.out)) | (go_at_call 49; exact quietA (whetstoneref02_reg.calls _ _ _ _ C3.out)))
  go_wp2
  go_ret
  exact ⟨rfl, pw_below_drewN (right_below _ _ _) _⟩

/-! ### whetstoneref18_costs: function 31 -/
def whetstoneref18_costs.f  : Option (List Int) := some (([1, 1, 2, 2, 2, 2, 2, 2, 2, 2, 3, 3, 3, 3, 3, 3, 3, 3, 1, 1, 1, 1, 1, 1, 1, 1, 1, 1, 1, 1, 1, 1, 1, 1, 1, 1, 1, 4, 4, 4, 4, 20, 20, 20, 20, 50, 50] : List Int))
set_option maxHeartbeats 8000000 in
set_option maxRecDepth 100000 in
theorem whetstoneref18_costs.calls  (r : List Int) (w : World) (h : whetstoneref18_costs.f  = some r) :
    Calls Try.prog 31 #[] w fun e w' => ∃ v0_ : Value, e = .returned (v0_) ∧ Kd.R (Kd.int .i64) 3 w' w.heap.size (fun _ => True) v0_ r ∧ Below w.heap.size w w' := by
  have HB := Aside0.mk (Below.refl w.heap.size w)
  have H : (some (([1, 1, 2, 2, 2, 2, 2, 2, 2, 2, 3, 3, 3, 3, 3, 3, 3, 3, 1, 1, 1, 1, 1, 1, 1, 1, 1, 1, 1, 1, 1, 1, 1, 1, 1, 1, 1, 4, 4, 4, 4, 20, 20, 20, 20, 50, 50] : List Int))) = some r := h
  clear h
  obtain ⟨y127, hy127⟩ : ∃ y_ : List Int, y_ = (([1, 1, 2, 2, 2, 2, 2, 2, 2, 2, 3, 3, 3, 3, 3, 3, 3, 3, 1, 1, 1, 1, 1, 1, 1, 1, 1, 1, 1, 1, 1, 1, 1, 1, 1, 1, 1, 4, 4, 4, 4, 20, 20, 20, 20, 50, 50] : List Int)) := ⟨_, rfl⟩
  replace H : (some y127) = some r := by first | (rw [hy127]; with_reducible exact H) | (have H2_ := (Option.bind_some _ _).symm.trans H; rw [hy127]; with_reducible exact H2_) | (have H2_ := (Option.bind_some _ _).symm.trans H; with_reducible exact H2_) | with_reducible exact H | (rw [hy127]; exact H) | exact H
  have Ny127 := Aside0.mk hy127
  clear hy127
  obtain rfl := Option.some.inj H
  go_enter Try.func31, Try.ntmps31
  go_wp2_with (first | ((with_reducible refine gate_dst (N := 1) rfl ?_); refine Kd.R_lit (Kd.int .i64) _ 3 ?hg (N := 1) ?hd (xs := ([1, 1, 2, 2, 2, 2, 2, 2, 2, 2, 3, 3, 3, 3, 3, 3, 3, 3, 1, 1, 1, 1, 1, 1, 1, 1, 1, 1, 1, 1, 1, 1, 1, 1, 1, 1, 1, 4, 4, 4, 4, 20, 20, 20, 20, 50, 50] : List Int)) (inner := [.int .i64 1, .int .i64 1, .int .i64 2, .int .i64 2, .int .i64 2, .int .i64 2, .int .i64 2, .int .i64 2, .int .i64 2, .int .i64 2, .int .i64 3, .int .i64 3, .int .i64 3, .int .i64 3, .int .i64 3, .int .i64 3, .int .i64 3, .int .i64 3, .int .i64 1, .int .i64 1, .int .i64 1, .int .i64 1, .int .i64 1, .int .i64 1, .int .i64 1, .int .i64 1, .int .i64 1, .int .i64 1, .int .i64 1, .int .i64 1, .int .i64 1, .int .i64 1, .int .i64 1, .int .i64 1, .int .i64 1, .int .i64 1, .int .i64 1, .int .i64 4, .int .i64 4, .int .i64 4, .int .i64 4, .int .i64 20, .int .i64 20, .int .i64 20, .int .i64 20, .int .i64 50, .int .i64 50]) (ok := fun _ => True) (okp := fun _ => True) ?hr ?hp (fun _ hk => hk) trivial (Below.refl _ _) (Nat.le_refl _) (by simp) ?_; (case hd => rfl); (case hg => rfl); (case hr => first | (go_simp; done) | (go_simp; rfl)); (case hp => exact (Reps.one (show Kd.M (Kd.int .i64) _ _ _ 1 [.int .i64 1] from rfl) (Reps.one (show Kd.M (Kd.int .i64) _ _ _ 1 [.int .i64 1] from rfl) (Reps.one (show Kd.M (Kd.int .i64) _ _ _ 2 [.int .i64 2] from rfl) (Reps.one (show Kd.M (Kd.int .i64) _ _ _ 2 [.int .i64 2] from rfl) (Reps.one (show Kd.M (Kd.int .i64) _ _ _ 2 [.int .i64 2] from rfl) (Reps.one (show Kd.M (Kd.int .i64) _ _ _ 2 [.int .i64 2] from rfl) (Reps.one (show Kd.M (Kd.int .i64) _ _ _ 2 [.int .i64 2] from rfl) (Reps.one (show Kd.M (Kd.int .i64) _ _ _ 2 [.int .i64 2] from rfl) (Reps.one (show Kd.M (Kd.int .i64) _ _ _ 2 [.int .i64 2] from rfl) (Reps.one (show Kd.M (Kd.int .i64) _ _ _ 2 [.int .i64 2] from rfl) (Reps.one (show Kd.M (Kd.int .i64) _ _ _ 3 [.int .i64 3] from rfl) (Reps.one (show Kd.M (Kd.int .i64) _ _ _ 3 [.int .i64 3] from rfl) (Reps.one (show Kd.M (Kd.int .i64) _ _ _ 3 [.int .i64 3] from rfl) (Reps.one (show Kd.M (Kd.int .i64) _ _ _ 3 [.int .i64 3] from rfl) (Reps.one (show Kd.M (Kd.int .i64) _ _ _ 3 [.int .i64 3] from rfl) (Reps.one (show Kd.M (Kd.int .i64) _ _ _ 3 [.int .i64 3] from rfl) (Reps.one (show Kd.M (Kd.int .i64) _ _ _ 3 [.int .i64 3] from rfl) (Reps.one (show Kd.M (Kd.int .i64) _ _ _ 3 [.int .i64 3] from rfl) (Reps.one (show Kd.M (Kd.int .i64) _ _ _ 1 [.int .i64 1] from rfl) (Reps.one (show Kd.M (Kd.int .i64) _ _ _ 1 [.int .i64 1] from rfl) (Reps.one (show Kd.M (Kd.int .i64) _ _ _ 1 [.int .i64 1] from rfl) (Reps.one (show Kd.M (Kd.int .i64) _ _ _ 1 [.int .i64 1] from rfl) (Reps.one (show Kd.M (Kd.int .i64) _ _ _ 1 [.int .i64 1] from rfl) (Reps.one (show Kd.M (Kd.int .i64) _ _ _ 1 [.int .i64 1] from rfl) (Reps.one (show Kd.M (Kd.int .i64) _ _ _ 1 [.int .i64 1] from rfl) (Reps.one (show Kd.M (Kd.int .i64) _ _ _ 1 [.int .i64 1] from rfl) (Reps.one (show Kd.M (Kd.int .i64) _ _ _ 1 [.int .i64 1] from rfl) (Reps.one (show Kd.M (Kd.int .i64) _ _ _ 1 [.int .i64 1] from rfl) (Reps.one (show Kd.M (Kd.int .i64) _ _ _ 1 [.int .i64 1] from rfl) (Reps.one (show Kd.M (Kd.int .i64) _ _ _ 1 [.int .i64 1] from rfl) (Reps.one (show Kd.M (Kd.int .i64) _ _ _ 1 [.int .i64 1] from rfl) (Reps.one (show Kd.M (Kd.int .i64) _ _ _ 1 [.int .i64 1] from rfl) (Reps.one (show Kd.M (Kd.int .i64) _ _ _ 1 [.int .i64 1] from rfl) (Reps.one (show Kd.M (Kd.int .i64) _ _ _ 1 [.int .i64 1] from rfl) (Reps.one (show Kd.M (Kd.int .i64) _ _ _ 1 [.int .i64 1] from rfl) (Reps.one (show Kd.M (Kd.int .i64) _ _ _ 1 [.int .i64 1] from rfl) (Reps.one (show Kd.M (Kd.int .i64) _ _ _ 1 [.int .i64 1] from rfl) (Reps.one (show Kd.M (Kd.int .i64) _ _ _ 4 [.int .i64 4] from rfl) (Reps.one (show Kd.M (Kd.int .i64) _ _ _ 4 [.int .i64 4] from rfl) (Reps.one (show Kd.M (Kd.int .i64) _ _ _ 4 [.int .i64 4] from rfl) (Reps.one (show Kd.M (Kd.int .i64) _ _ _ 4 [.int .i64 4] from rfl) (Reps.one (show Kd.M (Kd.int .i64) _ _ _ 20 [.int .i64 20] from rfl) (Reps.one (show Kd.M (Kd.int .i64) _ _ _ 20 [.int .i64 20] from rfl) (Reps.one (show Kd.M (Kd.int .i64) _ _ _ 20 [.int .i64 20] from rfl) (Reps.one (show Kd.M (Kd.int .i64) _ _ _ 20 [.int .i64 20] from rfl) (Reps.one (show Kd.M (Kd.int .i64) _ _ _ 50 [.int .i64 50] from rfl) (Reps.one (show Kd.M (Kd.int .i64) _ _ _ 50 [.int .i64 50] from rfl) (Reps.none _ _))))))))))))))))))))))))))))))))))))))))))))))))); intro v128 w1 ho2 hb hg_ hnew_; clear hg_ hnew_; (first | rw [← Ny127.out] at ho2 | (simp only [Int.reduceToNat] at ho2; rw [← Ny127.out] at ho2)); have n0_ := Aside0.mk (Kd.R_lower ho2 (below_size (by repeat (first | (with_reducible first | exact HB.out | apply below_alloc | apply pw_below_drewN | apply below_drew1) | exact HB.out)))); have n1_ := Aside0.mk (below_step (by repeat (first | (with_reducible first | exact HB.out | apply below_alloc | apply pw_below_drewN | apply below_drew1) | exact HB.out)) hb); clear HB; have HO129 := n0_; have HB := n1_; clear n0_ n1_; clear hb ho2))
  go_ret
  exact ⟨_, by first | rfl | (simp [errW_none, errW_some] <;> rfl) | (simp [*, errW_none, errW_some] <;> rfl), by (with_reducible repeat (first | apply Kd.R_alloc | apply Kd.R_drewN | apply Kd.R_drew)); exact HO129.out, by repeat (first | (with_reducible first | exact HB.out | apply below_alloc | apply pw_below_drewN | apply below_drew1) | exact HB.out)⟩

theorem strengthen_ {P : Program} {ops : Array Oper} {Q : Exit → Act → World → Prop} {md : Region.Mode} {S S' : World → Prop} (hs : ∀ w, S' w → S w) : ∀ {fuel : Nat} {l : Array Bool} {a : Act} {w : World}, S' w → wpAnyLast P md ops Q S' [] fuel l a w → wpAnyLast P md ops Q S [] fuel l a w
  | 0, _, _, _, _, h => h
  | fuel + 1, l, a, w, hw, h => ⟨h.1, fun i hi => wpOp_mono (fun a' w' h' => ⟨fun _ _ => hs w' (h'.1 (by simp) hw), strengthen_ hs (h'.1 (by simp) hw) h'.2⟩) (h.2 i hi)⟩
/-! ### whetstoneref18_Cost: function 12 -/
def whetstoneref18_Cost.f (k : Nat) (a0_0 : Int) (a0_1 : Int) (a0_2 : Int) (a0_3 : Int) (a0_4 : Int) : Option (Int) := (whetstoneref02_Right.f k a0_0 a0_1 a0_2 a0_3 a0_4).bind fun t131 => (if t131 = true then (if (a0_0 == 18 && (a0_1 == 0 && (a0_2 == 0 && (a0_3 == 0 && (a0_4 == 0))))) = true then (some 0) else ((whetstoneref18_costs.f).bind fun t132 => (if 0 ≤ a0_0 then (if a0_0 < (t132.length : Int) then (some (rd t132 a0_0)) else (none)) else (none)))) else (some 1000))
theorem whetstoneref18_Cost.mono : ∀ a0 a1 a2 a3 a4 k, LeO (whetstoneref18_Cost.f k a0 a1 a2 a3 a4) (whetstoneref18_Cost.f (k + 1) a0 a1 a2 a3 a4) := by
  intro a0 a1 a2 a3 a4 k
  unfold whetstoneref18_Cost.f
  repeat' first
      | (with_reducible exact whetstoneref02_Right.mono _ _ _ _ _ _)
      | (with_reducible exact LeO.refl _)
      | (with_reducible exact LeO.none _)
      | (with_reducible refine LeO.ite ?_ ?_)
      | (with_reducible refine LeO.bind ?_ (fun _ => ?_))
      | exact whetstoneref02_Right.mono _ _ _ _ _ _
      | exact LeO.none _
      | refine LeO.ite ?_ ?_
      | refine LeO.bind ?_ (fun _ => ?_)
set_option maxHeartbeats 8000000 in
set_option maxRecDepth 100000 in
theorem whetstoneref18_Cost.calls (k : Nat) (a0_0 : Int) (a0_1 : Int) (a0_2 : Int) (a0_3 : Int) (a0_4 : Int) (r : Int) (w : World) (h : whetstoneref18_Cost.f k a0_0 a0_1 a0_2 a0_3 a0_4 = some r) :
    Calls Try.prog 12 #[.agg #[.int .i64 a0_0, .int .i64 a0_1, .int .i64 a0_2, .int .i64 a0_3, .int .i64 a0_4]] w fun e w' => e = .returned (.int .i64 r) ∧ Below w.heap.size w w' := by
  have hu25 := Try.underlying25
  have HB := Aside0.mk (Below.refl w.heap.size w)
  have H : ((whetstoneref02_Right.f k a0_0 a0_1 a0_2 a0_3 a0_4).bind fun t131 => (if t131 = true then (if (a0_0 == 18 && (a0_1 == 0 && (a0_2 == 0 && (a0_3 == 0 && (a0_4 == 0))))) = true then (some 0) else ((whetstoneref18_costs.f).bind fun t132 => (if 0 ≤ a0_0 then (if a0_0 < (t132.length : Int) then (some (rd t132 a0_0)) else (none)) else (none)))) else (some 1000))) = some r := h
  clear h
  replace H := Option.bind_eq_some_iff.mp H
  obtain ⟨t131, A20, H⟩ := H
  replace H : (if t131 = true then (if (a0_0 == 18 && (a0_1 == 0 && (a0_2 == 0 && (a0_3 == 0 && (a0_4 == 0))))) = true then (some 0) else ((whetstoneref18_costs.f).bind fun t132 => (if 0 ≤ a0_0 then (if a0_0 < (t132.length : Int) then (some (rd t132 a0_0)) else (none)) else (none)))) else (some 1000)) = some r := H
  have A2 := Aside0.mk A20
  clear A20
  by_cases c3 : t131 = true
  · subst c3
    have H1 : (if (a0_0 == 18 && (a0_1 == 0 && (a0_2 == 0 && (a0_3 == 0 && (a0_4 == 0))))) = true then (some 0) else ((whetstoneref18_costs.f).bind fun t132 => (if 0 ≤ a0_0 then (if a0_0 < (t132.length : Int) then (some (rd t132 a0_0)) else (none)) else (none)))) = some r := by rw [if_pos rfl] at H; exact H
    clear H
    have H := H1
    clear H1
    by_cases c4 : (a0_0 == 18 && (a0_1 == 0 && (a0_2 == 0 && (a0_3 == 0 && (a0_4 == 0))))) = true
    · rw [if_pos c4] at H
      have c4b0 : (a0_0 == 18 && (a0_1 == 0 && (a0_2 == 0 && (a0_3 == 0 && (a0_4 == 0))))) = true := c4
      (try (have c4b1 : decide (a0_0 = 18 && (a0_1 == 0 && (a0_2 == 0 && (a0_3 == 0 && (a0_4 == 0))))) = true := by simpa using c4))
      (try (have c4b2 : (a0_0 == 18 && (a0_1 == 0 && (a0_2 == 0 && (a0_3 == 0 && (a0_4 == 0))))) = true := by simpa using c4))
      clear c4
      obtain rfl := Option.some.inj H
      go_enter Try.func12, Try.ntmps12
      go_wp2_with (first | ((with_reducible refine gate_dst (N := 1) rfl ?_); refine box_event ?hg (N := 1) ?hd (cs := #[.int .i64 a0_0, .int .i64 a0_1, .int .i64 a0_2, .int .i64 a0_3, .int .i64 a0_4]) (t := 25) ?hr ?_; (case hd => rfl); (case hg => rfl); (case hr => first | (go_simp; done) | (go_simp; rfl)); intro gb130 hg w5 hbox hb; have n0_ := Aside0.mk (below_step (by repeat (first | (with_reducible first | exact HB.out | apply below_alloc | apply pw_below_drewN | apply below_drew1) | exact HB.out)) hb); have n1_ := Aside0.mk (hbox); have n2_ := Aside0.mk ((by rw [hg]; exact (below_size (by repeat (first | (with_reducible first | exact HB.out | apply below_alloc | apply pw_below_drewN | apply below_drew1) | exact HB.out))) : w.heap.size ≤ gb130)); have n3_ := Aside0.mk ((by rw [hg]; exact (below_size (by repeat (first | (with_reducible first | exact HB.out | apply below_alloc | apply pw_below_drewN | apply below_drew1) | exact HB.out))) : w.heap.size ≤ gb130)); clear HB; have HB := n0_; have BK130 := n1_; have GW130 := n2_; have GE130 := n3_; clear n0_ n1_ n2_ n3_; clear hb hbox hg; have hcz6_0 : w5.cell? ⟨gb130, 0, none⟩ = some (.int .i64 a0_0) := (blk_cell BK130.out 0).trans rfl; have hcz6_1 : w5.cell? ⟨gb130, 1, none⟩ = some (.int .i64 a0_1) := (blk_cell BK130.out 1).trans rfl; have hcz6_2 : w5.cell? ⟨gb130, 2, none⟩ = some (.int .i64 a0_2) := (blk_cell BK130.out 2).trans rfl; have hcz6_3 : w5.cell? ⟨gb130, 3, none⟩ = some (.int .i64 a0_3) := (blk_cell BK130.out 3).trans rfl; have hcz6_4 : w5.cell? ⟨gb130, 4, none⟩ = some (.int .i64 a0_4) := (blk_cell BK130.out 4).trans rfl; have hfz6_0 := blk_frozen BK130.out 0; have hfz6_1 := blk_frozen BK130.out 1; have hfz6_2 := blk_frozen BK130.out 2; have hfz6_3 := blk_frozen BK130.out 3; have hfz6_4 := blk_frozen BK130.out 4) | ((with_reducible refine gate_callee (f := 30) rfl ?_); refine goesL_ (some 4) rfl rfl Try.func30 (by kernel_rfl) rfl #[.agg #[.int .i64 a0_0, .int .i64 a0_1, .int .i64 a0_2, .int .i64 a0_3, .int .i64 a0_4]] rfl (by (try simp only [List.map_toArray, List.map_cons, List.map_nil]); first | done | rfl | (simp only [List.length_drop, List.length_take]; rfl)) ?_; (with_reducible refine (whetstoneref02_Right.calls k a0_0 a0_1 a0_2 a0_3 a0_4 true _ A2.out).mono ?_); rintro e w7 ⟨rfl, hb⟩; refine ⟨_, rfl, ?_⟩; have n0_ := Aside0.mk (blk_below (g := gb130) (o := .cells #[.int .i64 a0_0, .int .i64 a0_1, .int .i64 a0_2, .int .i64 a0_3, .int .i64 a0_4] 25 (0, 0)) (by (with_reducible repeat (first | refine blk_drewN ?_ _ | refine blk_drew ?_ | refine blk_alloc ?_ _)); exact BK130.out) hb); have n1_ := Aside0.mk (below_step (by repeat (first | (with_reducible first | exact HB.out | apply below_alloc | apply pw_below_drewN | apply below_drew1 | refine below_set ?_ GE130.out) | exact HB.out)) hb); clear BK130; clear HB; have BK130 := n0_; have HB := n1_; clear n0_ n1_; (try clear hb); (try clear hb2); (try clear hk); (try clear hi); have hcz8_0 : w7.cell? ⟨gb130, 0, none⟩ = some (.int .i64 a0_0) := (blk_cell BK130.out 0).trans rfl; have hcz8_1 : w7.cell? ⟨gb130, 1, none⟩ = some (.int .i64 a0_1) := (blk_cell BK130.out 1).trans rfl; have hcz8_2 : w7.cell? ⟨gb130, 2, none⟩ = some (.int .i64 a0_2) := (blk_cell BK130.out 2).trans rfl; have hcz8_3 : w7.cell? ⟨gb130, 3, none⟩ = some (.int .i64 a0_3) := (blk_cell BK130.out 3).trans rfl; have hcz8_4 : w7.cell? ⟨gb130, 4, none⟩ = some (.int .i64 a0_4) := (blk_cell BK130.out 4).trans rfl; have hfz8_0 := blk_frozen BK130.out 0; have hfz8_1 := blk_frozen BK130.out 1; have hfz8_2 := blk_frozen BK130.out 2; have hfz8_3 := blk_frozen BK130.out 3; have hfz8_4 := blk_frozen BK130.out 4))
      go_ret
      exact ⟨by first | rfl | (simp [errW_none, errW_some] <;> rfl) | (simp [*, errW_none, errW_some] <;> rfl), by repeat (first | (with_reducible first | exact HB.out | apply below_alloc | apply pw_below_drewN | apply below_drew1 | refine below_set ?_ GE130.out) | exact HB.out)⟩
    · rw [if_neg c4] at H
      have c4b0 : (a0_0 == 18 && (a0_1 == 0 && (a0_2 == 0 && (a0_3 == 0 && (a0_4 == 0))))) = false := by simpa using c4
      (try (have c4b1 : decide (a0_0 = 18 && (a0_1 == 0 && (a0_2 == 0 && (a0_3 == 0 && (a0_4 == 0))))) = false := by simpa using c4))
      (try (have c4b2 : (a0_0 == 18 && (a0_1 == 0 && (a0_2 == 0 && (a0_3 == 0 && (a0_4 == 0))))) = false := by simpa using c4))
      (try (have c4b3 : ¬ (a0_0 = 18 && (a0_1 == 0 && (a0_2 == 0 && (a0_3 == 0 && (a0_4 == 0))))) := by simpa using c4))
      clear c4
      replace H := Option.bind_eq_some_iff.mp H
      obtain ⟨t132, A90, H⟩ := H
      replace H : (if 0 ≤ a0_0 then (if a0_0 < (t132.length : Int) then (some (rd t132 a0_0)) else (none)) else (none)) = some r := H
      have A9 := Aside0.mk A90
      clear A90
      by_cases c10 : 0 ≤ a0_0
      · rw [if_pos c10] at H
        have c10b0 : decide (0 ≤ a0_0) = true := decide_eq_true c10
        clear c10
        by_cases c11 : a0_0 < (t132.length : Int)
        · rw [if_pos c11] at H
          have c11b0 : decide (a0_0 < (t132.length : Int)) = true := decide_eq_true c11
          clear c11
          obtain rfl := Option.some.inj H
          go_enter Try.func12, Try.ntmps12
          try go_wp2_with (first | ((with_reducible refine gate_dst (N := 1) rfl ?_); refine box_event ?hg (N := 1) ?hd (cs := #[.int .i64 a0_0, .int .i64 a0_1, .int .i64 a0_2, .int .i64 a0_3, .int .i64 a0_4]) (t := 25) ?hr ?_; (case hd => rfl); (case hg => rfl); (case hr => first | (go_simp; done) | (go_simp; rfl)); intro gb130 hg w12 hbox hb; have n0_ := Aside0.mk (below_step (by repeat (first | (with_reducible first | exact HB.out | apply below_alloc | apply pw_below_drewN | apply below_drew1) | exact HB.out)) hb); have n1_ := Aside0.mk (hbox); have n2_ := Aside0.mk ((by rw [hg]; exact (below_size (by repeat (first | (with_reducible first | exact HB.out | apply below_alloc | apply pw_below_drewN | apply below_drew1) | exact HB.out))) : w.heap.size ≤ gb130)); have n3_ := Aside0.mk ((by rw [hg]; exact (below_size (by repeat (first | (with_reducible first | exact HB.out | apply below_alloc | apply pw_below_drewN | apply below_drew1) | exact HB.out))) : w.heap.size ≤ gb130)); clear HB; have HB := n0_; have BK130 := n1_; have GW130 := n2_; have GE130 := n3_; clear n0_ n1_ n2_ n3_; clear hb hbox hg; have hcz13_0 : w12.cell? ⟨gb130, 0, none⟩ = some (.int .i64 a0_0) := (blk_cell BK130.out 0).trans rfl; have hcz13_1 : w12.cell? ⟨gb130, 1, none⟩ = some (.int .i64 a0_1) := (blk_cell BK130.out 1).trans rfl; have hcz13_2 : w12.cell? ⟨gb130, 2, none⟩ = some (.int .i64 a0_2) := (blk_cell BK130.out 2).trans rfl; have hcz13_3 : w12.cell? ⟨gb130, 3, none⟩ = some (.int .i64 a0_3) := (blk_cell BK130.out 3).trans rfl; have hcz13_4 : w12.cell? ⟨gb130, 4, none⟩ = some (.int .i64 a0_4) := (blk_cell BK130.out 4).trans rfl; have hfz13_0 := blk_frozen BK130.out 0; have hfz13_1 := blk_frozen BK130.out 1; have hfz13_2 := blk_frozen BK130.out 2; have hfz13_3 := blk_frozen BK130.out 3; have hfz13_4 := blk_frozen BK130.out 4) | ((with_reducible refine gate_callee (f := 30) rfl ?_); refine goesL_ (some 4) rfl rfl Try.func30 (by kernel_rfl) rfl #[.agg #[.int .i64 a0_0, .int .i64 a0_1, .int .i64 a0_2, .int .i64 a0_3, .int .i64 a0_4]] rfl (by (try simp only [List.map_toArray, List.map_cons, List.map_nil]); first | done | rfl | (simp only [List.length_drop, List.length_take]; rfl)) ?_; (with_reducible refine (whetstoneref02_Right.calls k a0_0 a0_1 a0_2 a0_3 a0_4 true _ A2.out).mono ?_); rintro e w14 ⟨rfl, hb⟩; refine ⟨_, rfl, ?_⟩; have n0_ := Aside0.mk (blk_below (g := gb130) (o := .cells #[.int .i64 a0_0, .int .i64 a0_1, .int .i64 a0_2, .int .i64 a0_3, .int .i64 a0_4] 25 (0, 0)) (by (with_reducible repeat (first | refine blk_drewN ?_ _ | refine blk_drew ?_ | refine blk_alloc ?_ _)); exact BK130.out) hb); have n1_ := Aside0.mk (below_step (by repeat (first | (with_reducible first | exact HB.out | apply below_alloc | apply pw_below_drewN | apply below_drew1 | refine below_set ?_ GE130.out) | exact HB.out)) hb); clear BK130; clear HB; have BK130 := n0_; have HB := n1_; clear n0_ n1_; (try clear hb); (try clear hb2); (try clear hk); (try clear hi); have hcz15_0 : w14.cell? ⟨gb130, 0, none⟩ = some (.int .i64 a0_0) := (blk_cell BK130.out 0).trans rfl; have hcz15_1 : w14.cell? ⟨gb130, 1, none⟩ = some (.int .i64 a0_1) := (blk_cell BK130.out 1).trans rfl; have hcz15_2 : w14.cell? ⟨gb130, 2, none⟩ = some (.int .i64 a0_2) := (blk_cell BK130.out 2).trans rfl; have hcz15_3 : w14.cell? ⟨gb130, 3, none⟩ = some (.int .i64 a0_3) := (blk_cell BK130.out 3).trans rfl; have hcz15_4 : w14.cell? ⟨gb130, 4, none⟩ = some (.int .i64 a0_4) := (blk_cell BK130.out 4).trans rfl; have hfz15_0 := blk_frozen BK130.out 0; have hfz15_1 := blk_frozen BK130.out 1; have hfz15_2 := blk_frozen BK130.out 2; have hfz15_3 := blk_frozen BK130.out 3; have hfz15_4 := blk_frozen BK130.out 4))
          have n0_ := Aside0.mk (blk_drew BK130.out)
          have n1_ := Aside0.mk (below_drew1 HB.out)
          clear BK130
          clear HB
          have BK130 := n0_
          have HB := n1_
          clear n0_ n1_
          refine start_ (n := 6) (S := fun w' => w'.cell? ⟨gb130, 0, none⟩ = some (.int .i64 a0_0) ∧ w'.cell? ⟨gb130, 1, none⟩ = some (.int .i64 a0_1) ∧ w'.cell? ⟨gb130, 2, none⟩ = some (.int .i64 a0_2) ∧ w'.cell? ⟨gb130, 3, none⟩ = some (.int .i64 a0_3) ∧ w'.cell? ⟨gb130, 4, none⟩ = some (.int .i64 a0_4) ∧ True) (ds := []) #[false, false, false, false, false, false] (by kernel_rfl) rfl rfl ⟨(blk_cell BK130.out 0).trans rfl, (blk_cell BK130.out 1).trans rfl, (blk_cell BK130.out 2).trans rfl, (blk_cell BK130.out 3).trans rfl, (blk_cell BK130.out 4).trans rfl, trivial⟩ (fun hHeld => ?_)
          generalize w14.drew = w16 at BK130 HB hHeld ⊢
          refine pure_ (i := 1) (N := some 10) (v := ?_) (a' := ?_) #[false, true, false, false, false, false] rfl rfl (by kernel_rfl) (fun _ _ _ h => h) (Or.inl ⟨by rfl, ?_⟩) ?_ ?_
          rotate_left
          · intro w'
            go_simp
            with_reducible rfl
          rotate_left
          · simp only [Act.put, List.setIfInBounds_toArray, List.set_cons_zero, List.set_cons_succ, i64_w, i32_w]
            rfl
          refine take_ (i := 2) (N := some 11) (v := ?_) (a' := ?_) #[false, true, true, false, false, false] rfl rfl (by kernel_rfl) (fun _ _ _ h => h) (Or.inl ⟨by rfl, ?_⟩) hHeld ?_ ?_
          rotate_left
          · rintro w' ⟨s0, s1, s2, s3, s4, s5⟩
            go_simp
            with_reducible rfl
          rotate_left
          · simp only [Act.put, List.setIfInBounds_toArray, List.set_cons_zero, List.set_cons_succ, i64_w, i32_w]
            rfl
          refine one_ (i := 0) (N := some 9) #[true, true, true, false, false, false] rfl rfl (by kernel_rfl) (by decide) (fun K hK => ?_)
          refine goes_ Try.func31 (by kernel_rfl) rfl #[] (by rfl) rfl rfl (by (try simp only [List.map_toArray, List.map_cons, List.map_nil]); first | done | rfl | (simp only [List.length_drop, List.length_take]; rfl)) ?_
          with_reducible refine (whetstoneref18_costs.calls  t132 _ A9.out).mono ?_
          rintro e w17 ⟨v133, rfl, ho0, hb⟩
          have HS5_ := trivial
          refine ⟨_, rfl, ?_⟩
          have n0_ := Aside0.mk (Kd.R_lower ho0 (below_size (by repeat (first | (with_reducible first | exact HB.out | apply below_alloc | apply pw_below_drewN | apply below_drew1 | refine below_set ?_ GE130.out) | exact HB.out))))
          have n1_ := Aside0.mk (blk_below (g := gb130) (o := .cells #[.int .i64 a0_0, .int .i64 a0_1, .int .i64 a0_2, .int .i64 a0_3, .int .i64 a0_4] 25 (0, 0)) (by (with_reducible repeat (first | refine blk_drewN ?_ _ | refine blk_drew ?_ | refine blk_alloc ?_ _)); exact BK130.out) hb)
          have n2_ := Aside0.mk (below_step (by repeat (first | (with_reducible first | exact HB.out | apply below_alloc | apply pw_below_drewN | apply below_drew1 | refine below_set ?_ GE130.out) | exact HB.out)) hb)
          clear BK130
          clear HB
          have HO134 := n0_
          have BK130 := n1_
          have HB := n2_
          clear n0_ n1_ n2_
          (try clear hb)
          (try clear hb2)
          (try clear hk)
          (try clear hi)
          (try clear ho0)
          obtain ⟨Ao18, co18, eo18⟩ := Kd.R_slice HO134.out
          (first | subst eo18 | (injection eo18 with f1_ f2_ f3_; have f4_ := f1_.symm; have f5_ := f3_.symm; clear f1_ f2_ f3_; subst f4_; subst f5_))
          have p135 : 0 ≤ (a0_0 : Int) := of_decide_eq_true (by first | (with_reducible assumption) | assumption)
          have q135 : a0_0 < (t132.length : Int) := of_decide_eq_true (by first | (with_reducible assumption) | assumption)
          obtain ⟨ad135, e135, hx135_0⟩ := Kd.at_int (Kd.R_reads' HO134.out).2.2 a0_0 p135 q135
          cases e135
          replace p135 := eq_true p135
          replace q135 := eq_true q135
          refine hK.out _ _ ⟨(blk_cell BK130.out 0).trans rfl, (blk_cell BK130.out 1).trans rfl, (blk_cell BK130.out 2).trans rfl, (blk_cell BK130.out 3).trans rfl, (blk_cell BK130.out 4).trans rfl, HS5_⟩ (fun hHeld => ?_)
          clear hK K
          replace hHeld := (⟨hHeld.1, hHeld.2.1, hHeld.2.2.1, hHeld.2.2.2.1, hHeld.2.2.2.2.1, hx135_0⟩ : w17.cell? ⟨gb130, 0, none⟩ = some (.int .i64 a0_0) ∧ w17.cell? ⟨gb130, 1, none⟩ = some (.int .i64 a0_1) ∧ w17.cell? ⟨gb130, 2, none⟩ = some (.int .i64 a0_2) ∧ w17.cell? ⟨gb130, 3, none⟩ = some (.int .i64 a0_3) ∧ w17.cell? ⟨gb130, 4, none⟩ = some (.int .i64 a0_4) ∧ w17.cell? (ad135.add (a0_0).toNat) = some (.int .i64 (rd t132 a0_0)))
          refine strengthen_ (S' := fun w' => w'.cell? ⟨gb130, 0, none⟩ = some (.int .i64 a0_0) ∧ w'.cell? ⟨gb130, 1, none⟩ = some (.int .i64 a0_1) ∧ w'.cell? ⟨gb130, 2, none⟩ = some (.int .i64 a0_2) ∧ w'.cell? ⟨gb130, 3, none⟩ = some (.int .i64 a0_3) ∧ w'.cell? ⟨gb130, 4, none⟩ = some (.int .i64 a0_4) ∧ w'.cell? (ad135.add (a0_0).toNat) = some (.int .i64 (rd t132 a0_0))) (fun w' h_ => ⟨h_.1, h_.2.1, h_.2.2.1, h_.2.2.2.1, h_.2.2.2.2.1, trivial⟩) hHeld ?_
          refine norm_ (a' := ?_) ?_ ?_
          rotate_left
          · show Act.put _ (some 9) _ = _
            simp only [Act.put, List.setIfInBounds_toArray, List.set_cons_zero, List.set_cons_succ, i64_w, i32_w]
            rfl
          refine pure_ (i := 3) (N := some 12) (v := ?_) (a' := ?_) #[true, true, true, true, false, false] rfl rfl (by kernel_rfl) (fun _ _ _ h => h) (Or.inl ⟨by rfl, ?_⟩) ?_ ?_
          rotate_left
          · intro w'
            go_simp
            with_reducible rfl
          rotate_left
          · simp only [Act.put, List.setIfInBounds_toArray, List.set_cons_zero, List.set_cons_succ, i64_w, i32_w]
            rfl
          refine take_ (i := 4) (N := some 13) (v := ?_) (a' := ?_) #[true, true, true, true, true, false] rfl rfl (by kernel_rfl) (fun _ _ _ h => h) (Or.inl ⟨by rfl, ?_⟩) hHeld ?_ ?_
          rotate_left
          · rintro w' ⟨s0, s1, s2, s3, s4, s5⟩
            go_simp
            with_reducible rfl
          rotate_left
          · simp only [Act.put, List.setIfInBounds_toArray, List.set_cons_zero, List.set_cons_succ, i64_w, i32_w]
            rfl
          refine pure_ (i := 5) (N := some 2) (v := ?_) (a' := ?_) #[true, true, true, true, true, true] rfl rfl (by kernel_rfl) (fun _ _ _ h => h) (Or.inl ⟨by rfl, ?_⟩) ?_ ?_
          rotate_left
          · intro w'
            go_simp
            with_reducible rfl
          rotate_left
          · simp only [Act.put, List.setIfInBounds_toArray, List.set_cons_zero, List.set_cons_succ, i64_w, i32_w]
            rfl
          refine done_ (by kernel_rfl) ?_
          try go_wp2
          go_ret
          exact ⟨by first | rfl | (simp [errW_none, errW_some] <;> rfl) | (simp [*, errW_none, errW_some] <;> rfl), by repeat (first | (with_reducible first | exact HB.out | apply below_alloc | apply pw_below_drewN | apply below_drew1 | refine below_set ?_ GE130.out) | exact HB.out)⟩
        · rw [if_neg c11] at H
          exact absurd H (by simp)
      · rw [if_neg c10] at H
        exact absurd H (by simp)
  · replace c3 := Bool.eq_false_iff.mpr c3
    subst c3
    have H1 : (some 1000) = some r := by rw [if_neg (show ¬ (false = true) by decide)] at H; exact H
    clear H
    have H := H1
    clear H1
    obtain rfl := Option.some.inj H
    go_enter Try.func12, Try.ntmps12
    go_wp2_with (first | ((with_reducible refine gate_dst (N := 1) rfl ?_); refine box_event ?hg (N := 1) ?hd (cs := #[.int .i64 a0_0, .int .i64 a0_1, .int .i64 a0_2, .int .i64 a0_3, .int .i64 a0_4]) (t := 25) ?hr ?_; (case hd => rfl); (case hg => rfl); (case hr => first | (go_simp; done) | (go_simp; rfl)); intro gb130 hg w19 hbox hb; have n0_ := Aside0.mk (below_step (by repeat (first | (with_reducible first | exact HB.out | apply below_alloc | apply pw_below_drewN | apply below_drew1) | exact HB.out)) hb); have n1_ := Aside0.mk (hbox); have n2_ := Aside0.mk ((by rw [hg]; exact (below_size (by repeat (first | (with_reducible first | exact HB.out | apply below_alloc | apply pw_below_drewN | apply below_drew1) | exact HB.out))) : w.heap.size ≤ gb130)); have n3_ := Aside0.mk ((by rw [hg]; exact (below_size (by repeat (first | (with_reducible first | exact HB.out | apply below_alloc | apply pw_below_drewN | apply below_drew1) | exact HB.out))) : w.heap.size ≤ gb130)); clear HB; have HB := n0_; have BK130 := n1_; have GW130 := n2_; have GE130 := n3_; clear n0_ n1_ n2_ n3_; clear hb hbox hg; have hcz20_0 : w19.cell? ⟨gb130, 0, none⟩ = some (.int .i64 a0_0) := (blk_cell BK130.out 0).trans rfl; have hcz20_1 : w19.cell? ⟨gb130, 1, none⟩ = some (.int .i64 a0_1) := (blk_cell BK130.out 1).trans rfl; have hcz20_2 : w19.cell? ⟨gb130, 2, none⟩ = some (.int .i64 a0_2) := (blk_cell BK130.out 2).trans rfl; have hcz20_3 : w19.cell? ⟨gb130, 3, none⟩ = some (.int .i64 a0_3) := (blk_cell BK130.out 3).trans rfl; have hcz20_4 : w19.cell? ⟨gb130, 4, none⟩ = some (.int .i64 a0_4) := (blk_cell BK130.out 4).trans rfl; have hfz20_0 := blk_frozen BK130.out 0; have hfz20_1 := blk_frozen BK130.out 1; have hfz20_2 := blk_frozen BK130.out 2; have hfz20_3 := blk_frozen BK130.out 3; have hfz20_4 := blk_frozen BK130.out 4) | ((with_reducible refine gate_callee (f := 30) rfl ?_); refine goesL_ (some 4) rfl rfl Try.func30 (by kernel_rfl) rfl #[.agg #[.int .i64 a0_0, .int .i64 a0_1, .int .i64 a0_2, .int .i64 a0_3, .int .i64 a0_4]] rfl (by (try simp only [List.map_toArray, List.map_cons, List.map_nil]); first | done | rfl | (simp only [List.length_drop, List.length_take]; rfl)) ?_; (with_reducible refine (whetstoneref02_Right.calls k a0_0 a0_1 a0_2 a0_3 a0_4 false _ A2.out).mono ?_); rintro e w21 ⟨rfl, hb⟩; refine ⟨_, rfl, ?_⟩; have n0_ := Aside0.mk (blk_below (g := gb130) (o := .cells #[.int .i64 a0_0, .int .i64 a0_1, .int .i64 a0_2, .int .i64 a0_3, .int .i64 a0_4] 25 (0, 0)) (by (with_reducible repeat (first | refine blk_drewN ?_ _ | refine blk_drew ?_ | refine blk_alloc ?_ _)); exact BK130.out) hb); have n1_ := Aside0.mk (below_step (by repeat (first | (with_reducible first | exact HB.out | apply below_alloc | apply pw_below_drewN | apply below_drew1 | refine below_set ?_ GE130.out) | exact HB.out)) hb); clear BK130; clear HB; have BK130 := n0_; have HB := n1_; clear n0_ n1_; (try clear hb); (try clear hb2); (try clear hk); (try clear hi)))
    go_ret
    exact ⟨by first | rfl | (simp [errW_none, errW_some] <;> rfl) | (simp [*, errW_none, errW_some] <;> rfl), by repeat (first | (with_reducible first | exact HB.out | apply below_alloc | apply pw_below_drewN | apply below_drew1 | refine below_set ?_ GE130.out) | exact HB.out)⟩

/-! ### grammar_Sum: function 14 -/
def grammar_Sum.l0 : Nat → Int → List (S25) → Int → Int → Option (Int)
  | 0, _, _, _, _ => none
  | k + 1, x3, x6, x7, x8 => if x8 < x7 then (if 0 ≤ x8 then (if x8 < (x6.length : Int) then ((grammar_Cost.f k ((rd_T25 x6 x8).f0) ((rd_T25 x6 x8).f1) ((rd_T25 x6 x8).f2) ((rd_T25 x6 x8).f3) ((rd_T25 x6 x8).f4)).bind fun t138 => (grammar_Sum.l0 k (wrap64 (x3 + t138)) x6 x7 (wrap64 (x8 + 1)))) else (none)) else (none)) else (some x3)
def grammar_Sum.f (k : Nat) (l0 : List (S25)) : Option (Int) := grammar_Sum.l0 k 0 l0 (l0.length : Int) 0
theorem grammar_Sum.mono_l : ∀ k, (∀ y0 y1 y2 y3, LeO (grammar_Sum.l0 k y0 y1 y2 y3) (grammar_Sum.l0 (k + 1) y0 y1 y2 y3))
  | 0 => fun _ _ _ _ r h => by simp [grammar_Sum.l0] at h
  | k + 1 => by
    have ih0 := grammar_Sum.mono_l k
    · intro y0 y1 y2 y3
      unfold grammar_Sum.l0
      repeat' first
      | (with_reducible exact ih0 _ _ _ _)
      | (with_reducible exact grammar_Cost.mono _ _ _ _ _ _)
      | (with_reducible exact LeO.refl _)
      | (with_reducible exact LeO.none _)
      | (with_reducible refine LeO.ite ?_ ?_)
      | (with_reducible refine LeO.bind ?_ (fun _ => ?_))
      | exact ih0 _ _ _ _
      | exact grammar_Cost.mono _ _ _ _ _ _
      | exact LeO.none _
      | refine LeO.ite ?_ ?_
      | refine LeO.bind ?_ (fun _ => ?_)
theorem grammar_Sum.mono : ∀ a0 k, LeO (grammar_Sum.f k a0) (grammar_Sum.f (k + 1) a0) := by
  intro a0 k
  have ih0 := grammar_Sum.mono_l k
  unfold grammar_Sum.f
  repeat' first
      | (with_reducible exact ih0 _ _ _ _)
      | (with_reducible exact grammar_Cost.mono _ _ _ _ _ _)
      | (with_reducible exact LeO.refl _)
      | (with_reducible exact LeO.none _)
      | (with_reducible refine LeO.ite ?_ ?_)
      | (with_reducible refine LeO.bind ?_ (fun _ => ?_))
      | exact ih0 _ _ _ _
      | exact grammar_Cost.mono _ _ _ _ _ _
      | exact LeO.none _
      | refine LeO.ite ?_ ?_
      | refine LeO.bind ?_ (fun _ => ?_)
set_option maxHeartbeats 8000000 in
set_option maxRecDepth 100000 in
theorem grammar_Sum.calls (k : Nat) (A0 : Option Addr) (c0 : Nat) (l0 : List (S25)) (r : Int) (w : World) (hr0 : Kd.C k25 w A0 l0.length l0) (hc0 : l0.length ≤ c0) (h : grammar_Sum.f k l0 = some r) :
    Calls Try.prog 14 #[.slice A0 l0.length c0] w fun e w' => e = .returned (.int .i64 r) ∧ Below w.heap.size w w' := by
  have hu25 := Try.underlying25
  have HR0 := Aside0.mk hr0
  have HC0 := Aside0.mk hc0
  clear hr0 hc0
  have HB := Aside0.mk (Below.refl w.heap.size w)
  have H : (grammar_Sum.l0 k 0 l0 (l0.length : Int) 0) = some r := h
  clear h
  have H' := Aside0.mk H
  clear H
  go_enter Try.func14, Try.ntmps14
  go_wp2
  go_loopg [3, 8] k (fun kq v3 v8 w' => ∃ (x3_1 : Int) (x8_1 : Int), v3 = .int .i64 x3_1 ∧ v8 = .int .i64 x8_1 ∧ Aside0 (grammar_Sum.l0 kq x3_1 l0 (l0.length : Int) x8_1 = some r) ∧ Aside0 (kq ≤ k) ∧ Aside0 (Below w.heap.size w w'))
  case atStart => exact ⟨(0), (0), (by first | rfl | (simp; done) | (simp [*]; done)), (by first | rfl | (simp; done) | (simp [*]; done)), H', ⟨Nat.le_refl _⟩, ⟨by repeat (first | (with_reducible first | exact HB.out | apply below_alloc | apply pw_below_drewN | apply below_drew1) | exact HB.out)⟩⟩
  case round =>
    clear H'
    try clear c1
    obtain ⟨x3_1, x8_1, rfl, rfl, HA, HK1, HB⟩ := hrel
    cases gk with
    | zero => exact absurd HA.out (by simp [grammar_Sum.l0])
    | succ k1 =>
      have H := HA.out
      clear HA
      simp only [grammar_Sum.l0] at H
      by_cases c2 : x8_1 < (l0.length : Int)
      · rw [if_pos c2] at H
        have c2b0 : decide (x8_1 < (l0.length : Int)) = true := decide_eq_true c2
        clear c2
        by_cases c3 : 0 ≤ x8_1
        · rw [if_pos c3] at H
          have c3b0 : decide (0 ≤ x8_1) = true := decide_eq_true c3
          clear c3
          by_cases c4 : x8_1 < (l0.length : Int)
          · rw [if_pos c4] at H
            have c4b0 : decide (x8_1 < (l0.length : Int)) = true := decide_eq_true c4
            clear c4
            replace H := Option.bind_eq_some_iff.mp H
            obtain ⟨t138, A50, H⟩ := H
            replace H : (grammar_Sum.l0 k1 (wrap64 (x3_1 + t138)) l0 (l0.length : Int) (wrap64 (x8_1 + 1))) = some r := H
            have A5 := Aside0.mk A50
            clear A50
            have H' := Aside0.mk H
            clear H
            have p136 : 0 ≤ (x8_1 : Int) := of_decide_eq_true (by first | (with_reducible assumption) | assumption)
            have q136 : x8_1 < (l0.length : Int) := of_decide_eq_true (by first | (with_reducible assumption) | assumption)
            obtain ⟨ad136, e136, hx136_0, hx136_1, hx136_2, hx136_3, hx136_4⟩ := at_T25 HR0.out x8_1 p136 q136
            cases e136
            replace hx136_0 := (HB.out.cell (World.block_lt_of_cell? w _ hx136_0)).trans hx136_0
            replace hx136_1 := (HB.out.cell (World.block_lt_of_cell? w _ hx136_1)).trans hx136_1
            replace hx136_2 := (HB.out.cell (World.block_lt_of_cell? w _ hx136_2)).trans hx136_2
            replace hx136_3 := (HB.out.cell (World.block_lt_of_cell? w _ hx136_3)).trans hx136_3
            replace hx136_4 := (HB.out.cell (World.block_lt_of_cell? w _ hx136_4)).trans hx136_4
            replace p136 := eq_true p136
            replace q136 := eq_true q136
            go_wp2_with (first | ((with_reducible refine gate_dst (N := 5) rfl ?_); refine box_event ?hg (N := 5) ?hd (cs := #[.int .i64 0, .int .i64 0, .int .i64 0, .int .i64 0, .int .i64 0]) (t := 25) ?hr ?_; (case hd => rfl); (case hg => rfl); (case hr => first | (go_simp; done) | (go_simp; rfl)); intro gb137 hg w6 hbox hb; have n0_ := Aside0.mk (below_step (by repeat (first | (with_reducible first | exact HB.out | apply below_alloc | apply pw_below_drewN | apply below_drew1) | exact HB.out)) hb); have n1_ := Aside0.mk (hbox); have n2_ := Aside0.mk ((by rw [hg]; exact (below_size (by repeat (first | (with_reducible first | exact HB.out | apply below_alloc | apply pw_below_drewN | apply below_drew1) | exact HB.out))) : w.heap.size ≤ gb137)); have n3_ := Aside0.mk ((by rw [hg]; exact (below_size (by repeat (first | (with_reducible first | exact HB.out | apply below_alloc | apply pw_below_drewN | apply below_drew1) | exact HB.out))) : w.heap.size ≤ gb137)); clear HB; have HB := n0_; have BK137 := n1_; have GW137 := n2_; have GE137 := n3_; clear n0_ n1_ n2_ n3_; clear hb hbox hg; have hcz7_0 : w6.cell? ⟨gb137, 0, none⟩ = some (.int .i64 0) := (blk_cell BK137.out 0).trans rfl; have hcz7_1 : w6.cell? ⟨gb137, 1, none⟩ = some (.int .i64 0) := (blk_cell BK137.out 1).trans rfl; have hcz7_2 : w6.cell? ⟨gb137, 2, none⟩ = some (.int .i64 0) := (blk_cell BK137.out 2).trans rfl; have hcz7_3 : w6.cell? ⟨gb137, 3, none⟩ = some (.int .i64 0) := (blk_cell BK137.out 3).trans rfl; have hcz7_4 : w6.cell? ⟨gb137, 4, none⟩ = some (.int .i64 0) := (blk_cell BK137.out 4).trans rfl; have hfz7_0 := blk_frozen BK137.out 0; have hfz7_1 := blk_frozen BK137.out 1; have hfz7_2 := blk_frozen BK137.out 2; have hfz7_3 := blk_frozen BK137.out 3; have hfz7_4 := blk_frozen BK137.out 4) | ((with_reducible refine gate_callee (f := 11) rfl ?_); refine goesL_ (some 14) rfl rfl Try.func11 (by kernel_rfl) rfl #[.agg #[.int .i64 ((rd_T25 l0 x8_1).f0), .int .i64 ((rd_T25 l0 x8_1).f1), .int .i64 ((rd_T25 l0 x8_1).f2), .int .i64 ((rd_T25 l0 x8_1).f3), .int .i64 ((rd_T25 l0 x8_1).f4)]] rfl (by (try simp only [List.map_toArray, List.map_cons, List.map_nil]); first | done | rfl | (simp only [List.length_drop, List.length_take]; rfl)) ?_; (with_reducible refine (grammar_Cost.calls k1 ((rd_T25 l0 x8_1).f0) ((rd_T25 l0 x8_1).f1) ((rd_T25 l0 x8_1).f2) ((rd_T25 l0 x8_1).f3) ((rd_T25 l0 x8_1).f4) t138 _ A5.out).mono ?_); rintro e w8 ⟨rfl, hb⟩; refine ⟨_, rfl, ?_⟩; have n0_ := Aside0.mk (blk_below (g := gb137) (o := .cells #[.int .i64 ((rd_T25 l0 x8_1).f0), .int .i64 ((rd_T25 l0 x8_1).f1), .int .i64 ((rd_T25 l0 x8_1).f2), .int .i64 ((rd_T25 l0 x8_1).f3), .int .i64 ((rd_T25 l0 x8_1).f4)] 25 (0, 0)) (by (with_reducible repeat (first | refine blk_drewN ?_ _ | refine blk_drew ?_ | refine blk_alloc ?_ _)); refine blk_put (cs := #[.int .i64 ((rd_T25 l0 x8_1).f0), .int .i64 ((rd_T25 l0 x8_1).f1), .int .i64 ((rd_T25 l0 x8_1).f2), .int .i64 ((rd_T25 l0 x8_1).f3), .int .i64 0]) ?_ 4 _ rfl; (with_reducible repeat (first | refine blk_drewN ?_ _ | refine blk_drew ?_ | refine blk_alloc ?_ _)); refine blk_put (cs := #[.int .i64 ((rd_T25 l0 x8_1).f0), .int .i64 ((rd_T25 l0 x8_1).f1), .int .i64 ((rd_T25 l0 x8_1).f2), .int .i64 0, .int .i64 0]) ?_ 3 _ rfl; (with_reducible repeat (first | refine blk_drewN ?_ _ | refine blk_drew ?_ | refine blk_alloc ?_ _)); refine blk_put (cs := #[.int .i64 ((rd_T25 l0 x8_1).f0), .int .i64 ((rd_T25 l0 x8_1).f1), .int .i64 0, .int .i64 0, .int .i64 0]) ?_ 2 _ rfl; (with_reducible repeat (first | refine blk_drewN ?_ _ | refine blk_drew ?_ | refine blk_alloc ?_ _)); refine blk_put (cs := #[.int .i64 ((rd_T25 l0 x8_1).f0), .int .i64 0, .int .i64 0, .int .i64 0, .int .i64 0]) ?_ 1 _ rfl; (with_reducible repeat (first | refine blk_drewN ?_ _ | refine blk_drew ?_ | refine blk_alloc ?_ _)); refine blk_put (cs := #[.int .i64 0, .int .i64 0, .int .i64 0, .int .i64 0, .int .i64 0]) ?_ 0 _ rfl; (with_reducible repeat (first | refine blk_drewN ?_ _ | refine blk_drew ?_ | refine blk_alloc ?_ _)); exact BK137.out) hb); have n1_ := Aside0.mk (below_step (by repeat (first | (with_reducible first | exact HB.out | apply below_alloc | apply pw_below_drewN | apply below_drew1 | refine below_set ?_ GE137.out) | exact HB.out)) hb); clear BK137; clear HB; have BK137 := n0_; have HB := n1_; clear n0_ n1_; (try clear hb); (try clear hb2); (try clear hk); (try clear hi)))
            go_roundg k1
            case measure => have := HK1.out; omega
            case rel => exact ⟨(wrap64 (x3_1 + t138)), (wrap64 (x8_1 + 1)), (by first | rfl | (simp; done) | (simp [*]; done)), (by first | rfl | (simp; done) | (simp [*]; done)), H', ⟨by have := HK1.out; omega⟩, ⟨by repeat (first | (with_reducible first | exact HB.out | apply below_alloc | apply pw_below_drewN | apply below_drew1 | refine below_set ?_ GE137.out) | exact HB.out)⟩⟩
          · rw [if_neg c4] at H
            exact absurd H (by simp)
        · rw [if_neg c3] at H
          exact absurd H (by simp)
      · rw [if_neg c2] at H
        have c2b0 : decide (x8_1 < (l0.length : Int)) = false := decide_eq_false c2
        clear c2
        obtain rfl := Option.some.inj H
        go_wp2
        go_ret
        exact ⟨by first | rfl | (simp [errW_none, errW_some] <;> rfl) | (simp [*, errW_none, errW_some] <;> rfl), by repeat (first | (with_reducible first | exact HB.out | apply below_alloc | apply pw_below_drewN | apply below_drew1) | exact HB.out)⟩

-- NOT PRINTED: function 53 (grammar_each)

end Go.Proofs.Ytcjbdfhofpfooaa.Q
