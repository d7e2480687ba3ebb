-- Written by this session's own driver (wip/tools/ownprint.py) over the kit's print: walks of the translated Go, each function once.
import Derived.Test.YtoabchfdbjhjcaaQx0
import Derived.Test.YtoabchfdbjhjcaaQx2
import Derived.Test.YtoabchfdbjhjcaaQx5
namespace Go.Proofs.Ytoabchfdbjhjcaa.Q
open Go.RowKit Go.Proofs.YtoabchfdbjhjcaaW.PrintWords Go.Proofs.YtoabchfdbjhjcaaW.PrintLast Go.Proofs.YtoabchfdbjhjcaaW.PrintMore
attribute [local go_sem] max2_int min2_int max_two min_two max_three min_three max_four min_four   -- for this text's walks alone
attribute [local go_sem] imax_u32 imax_u8 isg_u32 isg_u8
set_option linter.unusedVariables false
set_option linter.unusedSimpArgs false

/-! ### inst_told: function 87 -/
def inst_told.f (k : Nat) (a0 a1 : Int) : Option Int :=
  if a0 = 85 then some ((a1 * 4096) % 4294967296)
  else if a0 = 74 then (word_Field.f k a1 20 1).bind fun t1 => (word_Field.f k a1 12 8).bind fun t2 => (word_Field.f k a1 11 1).bind fun t3 => (word_Field.f k a1 1 10).bind fun t4 => some (Go.bits .or .u32 (Go.bits .or .u32 (Go.bits .or .u32 (shl .u32 t1 31) (shl .u32 t2 12)) (shl .u32 t3 20)) (shl .u32 t4 21))
  else if a0 = 73 then some ((a1 * 1048576) % 4294967296)
  else if a0 = 72 then some ((a1 * 1048576) % 4294967296)
  else if a0 = 83 then (word_Field.f k a1 5 7).bind fun t1 => (word_Field.f k a1 0 5).bind fun t2 => some (Go.bits .or .u32 (shl .u32 t1 25) (shl .u32 t2 7))
  else if a0 = 66 then (word_Field.f k a1 12 1).bind fun t1 => (word_Field.f k a1 11 1).bind fun t2 => (word_Field.f k a1 5 6).bind fun t3 => (word_Field.f k a1 1 4).bind fun t4 => some (Go.bits .or .u32 (Go.bits .or .u32 (Go.bits .or .u32 (shl .u32 t1 31) (shl .u32 t2 7)) (shl .u32 t3 25)) (shl .u32 t4 8))
  else some 0
theorem inst_told.mono : ∀ a0 a1 k, LeO (inst_told.f k a0 a1) (inst_told.f (k + 1) a0 a1) := by
  intro a0 a1 k
  unfold inst_told.f
  repeat' first
      | (with_reducible exact word_Field.mono _ _ _ _)
      | (with_reducible exact LeO.refl _)
      | (with_reducible refine LeO.ite ?_ ?_)
      | (with_reducible refine LeO.bind ?_ (fun _ => ?_))
set_option maxHeartbeats 800000 in
set_option maxRecDepth 100000 in
theorem told1 (k : Nat) (n p b to_ fr c : Int) (g : Nat) (w : World) (hc : w.cell? ⟨g, 0, none⟩ = some (.int .u32 n)) (hF : word_Field.f k n p b = some fr) (h0 : 0 ≤ to_) (h1 : to_ ≤ 32) (hs : shl .u32 fr to_ = c) :
    Calls Try.prog 129 #[.int .i64 p, .int .i64 b, .int .i64 to_, .pointer (some ⟨g, 0, none⟩)] w fun e w' => e = .returned (.int .u32 c) ∧ Drawn0 w w' := by
  have hs' := shl_small hs (show to_ ≤ (IntKind.u32.bits : Int) from h1)
  have HF := Aside0.mk hF
  clear hF hs
  go_enter Try.func129, Try.ntmps129
  go_wp2_with (go_at_call 85; (with_reducible refine (word_Field.calls k n p b fr _ HF.out).mono ?_); rintro e w' ⟨rfl, ⟨nd, rfl⟩⟩)
  go_ret
  exact ⟨rfl, by repeat (first | exact Drawn0.refl _ | apply Drawn0.step)⟩
set_option maxHeartbeats 1600000 in
set_option maxRecDepth 100000 in
theorem inst_told.calls (k : Nat) (a0 a1 r : Int) (w : World) (h : inst_told.f k a0 a1 = some r) :
    Calls Try.prog 87 #[.int .u8 a0, .int .u32 a1] w fun e w' => e = .returned (.int .u32 r) ∧ Below w.heap.size w w' := by
  unfold inst_told.f at h
  by_cases c0 : a0 = 85
  · rw [if_pos c0] at h
    subst c0
    obtain rfl := Option.some.inj h
    go_enter Try.func87, Try.ntmps87
    go_wp2_with fail
    go_ret
    exact ⟨by first | rfl | (simp; done), by first | exact box_below w _ _ | exact box_below w _ 0⟩
  rw [if_neg c0] at h
  have b0 : (a0 == 85) = false := beq_eq_false_iff_ne.mpr c0
  by_cases c1 : a0 = 74
  · rw [if_pos c1] at h
    subst c1
    clear c0 b0
    obtain ⟨t1, A1, h⟩ := Option.bind_eq_some_iff.mp h
    obtain ⟨t2, A2, h⟩ := Option.bind_eq_some_iff.mp h
    obtain ⟨t3, A3, h⟩ := Option.bind_eq_some_iff.mp h
    obtain ⟨t4, A4, h⟩ := Option.bind_eq_some_iff.mp h
    have A1 := Aside0.mk A1; have A2 := Aside0.mk A2; have A3 := Aside0.mk A3; have A4 := Aside0.mk A4
    obtain rfl := Option.some.inj h
    go_enter Try.func87, Try.ntmps87
    go_wp2_with (first | (go_at_call 129; (with_reducible refine (told1 k a1 20 1 31 t1 _ _ _ ?_ A1.out (by decide) (by decide) rfl).mono ?_); (first | exact box_cell w a1 _ _ _ | exact box_cell w a1 _ _ 0); rintro e w' ⟨rfl, ⟨nd, rfl⟩⟩) | (go_at_call 129; (with_reducible refine (told1 k a1 12 8 12 t2 _ _ _ ?_ A2.out (by decide) (by decide) rfl).mono ?_); (first | exact box_cell w a1 _ _ _ | exact box_cell w a1 _ _ 0); rintro e w' ⟨rfl, ⟨nd, rfl⟩⟩) | (go_at_call 129; (with_reducible refine (told1 k a1 11 1 20 t3 _ _ _ ?_ A3.out (by decide) (by decide) rfl).mono ?_); (first | exact box_cell w a1 _ _ _ | exact box_cell w a1 _ _ 0); rintro e w' ⟨rfl, ⟨nd, rfl⟩⟩) | (go_at_call 129; (with_reducible refine (told1 k a1 1 10 21 t4 _ _ _ ?_ A4.out (by decide) (by decide) rfl).mono ?_); (first | exact box_cell w a1 _ _ _ | exact box_cell w a1 _ _ 0); rintro e w' ⟨rfl, ⟨nd, rfl⟩⟩))
    go_ret
    exact ⟨by first | rfl | (simp; done), by first | exact box_below w _ _ | exact box_below w _ 0⟩
  rw [if_neg c1] at h
  have b1 : (a0 == 74) = false := beq_eq_false_iff_ne.mpr c1
  by_cases c2 : a0 = 73
  · rw [if_pos c2] at h
    subst c2
    clear c0 b0 c1 b1
    obtain rfl := Option.some.inj h
    go_enter Try.func87, Try.ntmps87
    go_wp2_with fail
    go_ret
    exact ⟨by first | rfl | (simp; done), by first | exact box_below w _ _ | exact box_below w _ 0⟩
  rw [if_neg c2] at h
  have b2 : (a0 == 73) = false := beq_eq_false_iff_ne.mpr c2
  by_cases c3 : a0 = 72
  · rw [if_pos c3] at h
    subst c3
    clear c0 b0 c1 b1 c2 b2
    obtain rfl := Option.some.inj h
    go_enter Try.func87, Try.ntmps87
    go_wp2_with fail
    go_ret
    exact ⟨by first | rfl | (simp; done), by first | exact box_below w _ _ | exact box_below w _ 0⟩
  rw [if_neg c3] at h
  have b3 : (a0 == 72) = false := beq_eq_false_iff_ne.mpr c3
  by_cases c4 : a0 = 83
  · rw [if_pos c4] at h
    subst c4
    clear c0 b0 c1 b1 c2 b2 c3 b3
    obtain ⟨t1, A1, h⟩ := Option.bind_eq_some_iff.mp h
    obtain ⟨t2, A2, h⟩ := Option.bind_eq_some_iff.mp h
    have A1 := Aside0.mk A1; have A2 := Aside0.mk A2
    obtain rfl := Option.some.inj h
    go_enter Try.func87, Try.ntmps87
    go_wp2_with (first | (go_at_call 129; (with_reducible refine (told1 k a1 5 7 25 t1 _ _ _ ?_ A1.out (by decide) (by decide) rfl).mono ?_); (first | exact box_cell w a1 _ _ _ | exact box_cell w a1 _ _ 0); rintro e w' ⟨rfl, ⟨nd, rfl⟩⟩) | (go_at_call 129; (with_reducible refine (told1 k a1 0 5 7 t2 _ _ _ ?_ A2.out (by decide) (by decide) rfl).mono ?_); (first | exact box_cell w a1 _ _ _ | exact box_cell w a1 _ _ 0); rintro e w' ⟨rfl, ⟨nd, rfl⟩⟩))
    go_ret
    exact ⟨by first | rfl | (simp; done), by first | exact box_below w _ _ | exact box_below w _ 0⟩
  rw [if_neg c4] at h
  have b4 : (a0 == 83) = false := beq_eq_false_iff_ne.mpr c4
  by_cases c5 : a0 = 66
  · rw [if_pos c5] at h
    subst c5
    clear c0 b0 c1 b1 c2 b2 c3 b3 c4 b4
    obtain ⟨t1, A1, h⟩ := Option.bind_eq_some_iff.mp h
    obtain ⟨t2, A2, h⟩ := Option.bind_eq_some_iff.mp h
    obtain ⟨t3, A3, h⟩ := Option.bind_eq_some_iff.mp h
    obtain ⟨t4, A4, h⟩ := Option.bind_eq_some_iff.mp h
    have A1 := Aside0.mk A1; have A2 := Aside0.mk A2; have A3 := Aside0.mk A3; have A4 := Aside0.mk A4
    obtain rfl := Option.some.inj h
    go_enter Try.func87, Try.ntmps87
    go_wp2_with (first | (go_at_call 129; (with_reducible refine (told1 k a1 12 1 31 t1 _ _ _ ?_ A1.out (by decide) (by decide) rfl).mono ?_); (first | exact box_cell w a1 _ _ _ | exact box_cell w a1 _ _ 0); rintro e w' ⟨rfl, ⟨nd, rfl⟩⟩) | (go_at_call 129; (with_reducible refine (told1 k a1 11 1 7 t2 _ _ _ ?_ A2.out (by decide) (by decide) rfl).mono ?_); (first | exact box_cell w a1 _ _ _ | exact box_cell w a1 _ _ 0); rintro e w' ⟨rfl, ⟨nd, rfl⟩⟩) | (go_at_call 129; (with_reducible refine (told1 k a1 5 6 25 t3 _ _ _ ?_ A3.out (by decide) (by decide) rfl).mono ?_); (first | exact box_cell w a1 _ _ _ | exact box_cell w a1 _ _ 0); rintro e w' ⟨rfl, ⟨nd, rfl⟩⟩) | (go_at_call 129; (with_reducible refine (told1 k a1 1 4 8 t4 _ _ _ ?_ A4.out (by decide) (by decide) rfl).mono ?_); (first | exact box_cell w a1 _ _ _ | exact box_cell w a1 _ _ 0); rintro e w' ⟨rfl, ⟨nd, rfl⟩⟩))
    go_ret
    exact ⟨by first | rfl | (simp; done), by first | exact box_below w _ _ | exact box_below w _ 0⟩
  rw [if_neg c5] at h
  have b5 : (a0 == 66) = false := beq_eq_false_iff_ne.mpr c5
  obtain rfl := Option.some.inj h
  go_enter Try.func87, Try.ntmps87
  go_wp2_with fail
  go_ret
  exact ⟨by first | rfl | (simp; done), by first | exact box_below w _ _ | exact box_below w _ 0⟩

end Go.Proofs.Ytoabchfdbjhjcaa.Q
