import Derived.Test.YtekenddkoahjgaaTQx0
import Derived.Test.YtekenddkoahjgaaTQx2
import Derived.Test.YtekenddkoahjgaaTQx6
import Derived.Test.YtekenddkoahjgaaTQx8
namespace Go.Proofs.Ytekenddkoahjgaa.Q
open Go.RowKit Go.Proofs.YtekenddkoahjgaaW.PrintWords Go.Proofs.YtekenddkoahjgaaW.PrintLast Go.Proofs.YtekenddkoahjgaaW.PrintMore
attribute [local go_sem] max2_int min2_int max_two min_two max_three min_three max_four min_four   -- for this text's walks alone
attribute [local go_sem] imax_u32 imax_u8 isg_u32 isg_u8
set_option linter.unusedVariables false
set_option linter.unusedSimpArgs false
def inst_imm.f (k : Nat) (a0 a1 : Int) : Option Int :=
 if a0 = 85 then (word_Field.f k a1 12 20).bind fun t1 => some (wrap64 t1)
 else if a0 = 74 then (word_Field.f k a1 31 1).bind fun t1 => (word_Field.f k a1 12 8).bind fun t2 => (word_Field.f k a1 20 1).bind fun t3 => (word_Field.f k a1 21 10).bind fun t4 => (inst_signed.f k (Go.bits .or .u32 (Go.bits .or .u32 (Go.bits .or .u32 ((t1 * 1048576) % 4294967296) ((t2 * 4096) % 4294967296)) ((t3 * 2048) % 4294967296)) ((t4 * 2) % 4294967296)) 21).bind fun t9 => some t9
 else if a0 = 73 then (word_Field.f k a1 20 12).bind fun t1 => (inst_signed.f k (t1) 12).bind fun t9 => some t9
 else if a0 = 83 then (word_Field.f k a1 25 7).bind fun t1 => (word_Field.f k a1 7 5).bind fun t2 => (inst_signed.f k (Go.bits .or .u32 ((t1 * 32) % 4294967296) (t2)) 12).bind fun t9 => some t9
 else if a0 = 66 then (word_Field.f k a1 31 1).bind fun t1 => (word_Field.f k a1 7 1).bind fun t2 => (word_Field.f k a1 25 6).bind fun t3 => (word_Field.f k a1 8 4).bind fun t4 => (inst_signed.f k (Go.bits .or .u32 (Go.bits .or .u32 (Go.bits .or .u32 ((t1 * 4096) % 4294967296) ((t2 * 2048) % 4294967296)) ((t3 * 32) % 4294967296)) ((t4 * 2) % 4294967296)) 13).bind fun t9 => some t9
 else if a0 = 72 then (word_Field.f k a1 20 5).bind fun t1 => some (wrap64 t1)
 else some 0
set_option maxHeartbeats 800000 in
set_option maxRecDepth 100000 in
theorem imm1 (k : Nat) (n p b fr : Int) (g : Nat) (w : World) (hc : w.cell? ⟨g, 0, none⟩ = some (.int .u32 n)) (hF : word_Field.f k n p b = some fr) :
  Calls Try.prog 91 #[.int .i64 p, .int .i64 b, .pointer (some ⟨g, 0, none⟩)] w fun e w' => e = .returned (.int .u32 fr) ∧ Drawn0 w w' := by
 have HF := Aside0.mk hF
 clear hF
 go_enter Try.func91, Try.ntmps91
 go_wp2_with (go_at_call 78; (with_reducible refine (word_Field.calls k n p b fr _ HF.out).mono ?_); rintro e w' ⟨rfl, ⟨nd, rfl⟩⟩)
 go_ret
 exact ⟨rfl, by repeat (first | exact Drawn0.refl _ | apply Drawn0.step)⟩
set_option maxHeartbeats 1600000 in
set_option maxRecDepth 100000 in
theorem inst_imm.calls (k : Nat) (a0 a1 r : Int) (w : World) (h : inst_imm.f k a0 a1 = some r) :
  Calls Try.prog 77 #[.int .u8 a0, .int .u32 a1] w fun e w' => e = .returned (.int .i64 r) ∧ Below w.heap.size w w' := by
 unfold inst_imm.f at h
 by_cases c0 : a0 = 85
 ·rw [if_pos c0] at h
  subst c0
  obtain ⟨t1, A1, h⟩ := Option.bind_eq_some_iff.mp h
  have A1 := Aside0.mk A1
  obtain rfl := Option.some.inj h
  go_enter Try.func77, Try.ntmps77
  go_wp2_with (first | (go_at_call 91; (with_reducible refine (imm1 k a1 12 20 t1 _ _ ?_ A1.out).mono ?_); (first | exact box_cell w a1 _ _ _ | exact box_cell w a1 _ _ 0); rintro e w' ⟨rfl, ⟨nd, rfl⟩⟩))
  go_ret
  exact ⟨by first | rfl | (simp; done), by first | exact box_below w _ _ | exact box_below w _ 0⟩
 rw [if_neg c0] at h
 have b0 : (a0 == 85) = false := beq_eq_false_iff_ne.mpr c0
 by_cases c1 : a0 = 74
 ·rw [if_pos c1] at h
  subst c1
  clear c0 b0
  obtain ⟨t1, A1, h⟩ := Option.bind_eq_some_iff.mp h
  obtain ⟨t2, A2, h⟩ := Option.bind_eq_some_iff.mp h
  obtain ⟨t3, A3, h⟩ := Option.bind_eq_some_iff.mp h
  obtain ⟨t4, A4, h⟩ := Option.bind_eq_some_iff.mp h
  have A1 := Aside0.mk A1; have A2 := Aside0.mk A2; have A3 := Aside0.mk A3; have A4 := Aside0.mk A4
  obtain ⟨t9, A9, h⟩ := Option.bind_eq_some_iff.mp h
  have A9 := Aside0.mk A9
  obtain rfl := Option.some.inj h
  go_enter Try.func77, Try.ntmps77
  go_wp2_with (first | (go_at_call 91; (with_reducible refine (imm1 k a1 31 1 t1 _ _ ?_ A1.out).mono ?_); (first | exact box_cell w a1 _ _ _ | exact box_cell w a1 _ _ 0); rintro e w' ⟨rfl, ⟨nd, rfl⟩⟩) | (go_at_call 91; (with_reducible refine (imm1 k a1 12 8 t2 _ _ ?_ A2.out).mono ?_); (first | exact box_cell w a1 _ _ _ | exact box_cell w a1 _ _ 0); rintro e w' ⟨rfl, ⟨nd, rfl⟩⟩) | (go_at_call 91; (with_reducible refine (imm1 k a1 20 1 t3 _ _ ?_ A3.out).mono ?_); (first | exact box_cell w a1 _ _ _ | exact box_cell w a1 _ _ 0); rintro e w' ⟨rfl, ⟨nd, rfl⟩⟩) | (go_at_call 91; (with_reducible refine (imm1 k a1 21 10 t4 _ _ ?_ A4.out).mono ?_); (first | exact box_cell w a1 _ _ _ | exact box_cell w a1 _ _ 0); rintro e w' ⟨rfl, ⟨nd, rfl⟩⟩) | (go_at_call 92; (with_reducible refine (inst_signed.calls k (Go.bits .or .u32 (Go.bits .or .u32 (Go.bits .or .u32 ((t1 * 1048576) % 4294967296) ((t2 * 4096) % 4294967296)) ((t3 * 2048) % 4294967296)) ((t4 * 2) % 4294967296)) 21 t9 _ A9.out).mono ?_); rintro e w' ⟨rfl, ⟨nd, rfl⟩⟩))
  go_ret
  exact ⟨by first | rfl | (simp; done), by first | exact box_below w _ _ | exact box_below w _ 0⟩
 rw [if_neg c1] at h
 have b1 : (a0 == 74) = false := beq_eq_false_iff_ne.mpr c1
 by_cases c2 : a0 = 73
 ·rw [if_pos c2] at h
  subst c2
  clear c0 b0 c1 b1
  obtain ⟨t1, A1, h⟩ := Option.bind_eq_some_iff.mp h
  have A1 := Aside0.mk A1
  obtain ⟨t9, A9, h⟩ := Option.bind_eq_some_iff.mp h
  have A9 := Aside0.mk A9
  obtain rfl := Option.some.inj h
  go_enter Try.func77, Try.ntmps77
  go_wp2_with (first | (go_at_call 91; (with_reducible refine (imm1 k a1 20 12 t1 _ _ ?_ A1.out).mono ?_); (first | exact box_cell w a1 _ _ _ | exact box_cell w a1 _ _ 0); rintro e w' ⟨rfl, ⟨nd, rfl⟩⟩) | (go_at_call 92; (with_reducible refine (inst_signed.calls k (t1) 12 t9 _ A9.out).mono ?_); rintro e w' ⟨rfl, ⟨nd, rfl⟩⟩))
  go_ret
  exact ⟨by first | rfl | (simp; done), by first | exact box_below w _ _ | exact box_below w _ 0⟩
 rw [if_neg c2] at h
 have b2 : (a0 == 73) = false := beq_eq_false_iff_ne.mpr c2
 by_cases c3 : a0 = 83
 ·rw [if_pos c3] at h
  subst c3
  clear c0 b0 c1 b1 c2 b2
  obtain ⟨t1, A1, h⟩ := Option.bind_eq_some_iff.mp h
  obtain ⟨t2, A2, h⟩ := Option.bind_eq_some_iff.mp h
  have A1 := Aside0.mk A1; have A2 := Aside0.mk A2
  obtain ⟨t9, A9, h⟩ := Option.bind_eq_some_iff.mp h
  have A9 := Aside0.mk A9
  obtain rfl := Option.some.inj h
  go_enter Try.func77, Try.ntmps77
  go_wp2_with (first | (go_at_call 91; (with_reducible refine (imm1 k a1 25 7 t1 _ _ ?_ A1.out).mono ?_); (first | exact box_cell w a1 _ _ _ | exact box_cell w a1 _ _ 0); rintro e w' ⟨rfl, ⟨nd, rfl⟩⟩) | (go_at_call 91; (with_reducible refine (imm1 k a1 7 5 t2 _ _ ?_ A2.out).mono ?_); (first | exact box_cell w a1 _ _ _ | exact box_cell w a1 _ _ 0); rintro e w' ⟨rfl, ⟨nd, rfl⟩⟩) | (go_at_call 92; (with_reducible refine (inst_signed.calls k (Go.bits .or .u32 ((t1 * 32) % 4294967296) (t2)) 12 t9 _ A9.out).mono ?_); rintro e w' ⟨rfl, ⟨nd, rfl⟩⟩))
  go_ret
  exact ⟨by first | rfl | (simp; done), by first | exact box_below w _ _ | exact box_below w _ 0⟩
 rw [if_neg c3] at h
 have b3 : (a0 == 83) = false := beq_eq_false_iff_ne.mpr c3
 by_cases c4 : a0 = 66
 ·rw [if_pos c4] at h
  subst c4
  clear c0 b0 c1 b1 c2 b2 c3 b3
  obtain ⟨t1, A1, h⟩ := Option.bind_eq_some_iff.mp h
  obtain ⟨t2, A2, h⟩ := Option.bind_eq_some_iff.mp h
  obtain ⟨t3, A3, h⟩ := Option.bind_eq_some_iff.mp h
  obtain ⟨t4, A4, h⟩ := Option.bind_eq_some_iff.mp h
  have A1 := Aside0.mk A1; have A2 := Aside0.mk A2; have A3 := Aside0.mk A3; have A4 := Aside0.mk A4
  obtain ⟨t9, A9, h⟩ := Option.bind_eq_some_iff.mp h
  have A9 := Aside0.mk A9
  obtain rfl := Option.some.inj h
  go_enter Try.func77, Try.ntmps77
  go_wp2_with (first | (go_at_call 91; (with_reducible refine (imm1 k a1 31 1 t1 _ _ ?_ A1.out).mono ?_); (first | exact box_cell w a1 _ _ _ | exact box_cell w a1 _ _ 0); rintro e w' ⟨rfl, ⟨nd, rfl⟩⟩) | (go_at_call 91; (with_reducible refine (imm1 k a1 7 1 t2 _ _ ?_ A2.out).mono ?_); (first | exact box_cell w a1 _ _ _ | exact box_cell w a1 _ _ 0); rintro e w' ⟨rfl, ⟨nd, rfl⟩⟩) | (go_at_call 91; (with_reducible refine (imm1 k a1 25 6 t3 _ _ ?_ A3.out).mono ?_); (first | exact box_cell w a1 _ _ _ | exact box_cell w a1 _ _ 0); rintro e w' ⟨rfl, ⟨nd, rfl⟩⟩) | (go_at_call 91; (with_reducible refine (imm1 k a1 8 4 t4 _ _ ?_ A4.out).mono ?_); (first | exact box_cell w a1 _ _ _ | exact box_cell w a1 _ _ 0); rintro e w' ⟨rfl, ⟨nd, rfl⟩⟩) | (go_at_call 92; (with_reducible refine (inst_signed.calls k (Go.bits .or .u32 (Go.bits .or .u32 (Go.bits .or .u32 ((t1 * 4096) % 4294967296) ((t2 * 2048) % 4294967296)) ((t3 * 32) % 4294967296)) ((t4 * 2) % 4294967296)) 13 t9 _ A9.out).mono ?_); rintro e w' ⟨rfl, ⟨nd, rfl⟩⟩))
  go_ret
  exact ⟨by first | rfl | (simp; done), by first | exact box_below w _ _ | exact box_below w _ 0⟩
 rw [if_neg c4] at h
 have b4 : (a0 == 66) = false := beq_eq_false_iff_ne.mpr c4
 by_cases c5 : a0 = 72
 ·rw [if_pos c5] at h
  subst c5
  clear c0 b0 c1 b1 c2 b2 c3 b3 c4 b4
  obtain ⟨t1, A1, h⟩ := Option.bind_eq_some_iff.mp h
  have A1 := Aside0.mk A1
  obtain rfl := Option.some.inj h
  go_enter Try.func77, Try.ntmps77
  go_wp2_with (first | (go_at_call 91; (with_reducible refine (imm1 k a1 20 5 t1 _ _ ?_ A1.out).mono ?_); (first | exact box_cell w a1 _ _ _ | exact box_cell w a1 _ _ 0); rintro e w' ⟨rfl, ⟨nd, rfl⟩⟩))
  go_ret
  exact ⟨by first | rfl | (simp; done), by first | exact box_below w _ _ | exact box_below w _ 0⟩
 rw [if_neg c5] at h
 have b5 : (a0 == 72) = false := beq_eq_false_iff_ne.mpr c5
 obtain rfl := Option.some.inj h
 go_enter Try.func77, Try.ntmps77
 go_wp2_with fail
 go_ret
 exact ⟨by first | rfl | (simp; done), by first | exact box_below w _ _ | exact box_below w _ 0⟩
end Go.Proofs.Ytekenddkoahjgaa.Q
