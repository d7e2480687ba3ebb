import Derived.Test.YtononmcodecmaaaJQx0
import Derived.Test.YtononmcodecmaaaJQx18
namespace Go.Proofs.Ytononmcodecmaaa.Q
open Go.RowKit Go.Proofs.YtononmcodecmaaaW.PrintWords Go.Proofs.YtononmcodecmaaaW.PrintLast Go.Proofs.YtononmcodecmaaaW.PrintMore
attribute [local go_sem] max2_int min2_int max_two min_two max_three min_three max_four min_four   -- for this text's walks alone
attribute [local go_sem] imax_u32 imax_u8 isg_u32 isg_u8
set_option linter.unusedVariables false
set_option linter.unusedSimpArgs false
def whetstoneref01_Of.l0 : Nat → List Int → Int → Int → Option (Int)
 | 0, _, _, _ => none
 | k + 1, x0, x3, x4 => if x4 ≥ 0 then (if 0 ≤ x4 then (if x4 < (x0.length : Int) then (whetstoneref01_Of.l0 k x0 (((x3 * 2) + (rd x0 x4)) % 4294967296) (wrap64 (x4 - 1))) else (none)) else (none)) else (some x3)
def whetstoneref01_Of.f (k : Nat) (l0 : List Int) : Option (Int) := whetstoneref01_Of.l0 k l0 0 31
theorem whetstoneref01_Of.mono_l : ∀ k, (∀ y0 y1 y2, LeO (whetstoneref01_Of.l0 k y0 y1 y2) (whetstoneref01_Of.l0 (k + 1) y0 y1 y2))
 | 0 => fun _ _ _ r h => by simp [whetstoneref01_Of.l0] at h
 | k + 1 => by
  have ih0 := whetstoneref01_Of.mono_l k
  ·intro y0 y1 y2
   unfold whetstoneref01_Of.l0
   repeat' first
   | (with_reducible exact ih0 _ _ _)
   | (with_reducible exact LeO.refl _)
   | (with_reducible exact LeO.none _)
   | (with_reducible refine LeO.ite ?_ ?_)
   | (with_reducible refine LeO.bind ?_ (fun _ => ?_))
   | exact ih0 _ _ _
   | exact LeO.none _
   | refine LeO.ite ?_ ?_
   | refine LeO.bind ?_ (fun _ => ?_)
theorem whetstoneref01_Of.mono : ∀ a0 k, LeO (whetstoneref01_Of.f k a0) (whetstoneref01_Of.f (k + 1) a0) := by
 intro a0 k
 have ih0 := whetstoneref01_Of.mono_l k
 unfold whetstoneref01_Of.f
 repeat' first
   | (with_reducible exact ih0 _ _ _)
   | (with_reducible exact LeO.refl _)
   | (with_reducible exact LeO.none _)
   | (with_reducible refine LeO.ite ?_ ?_)
   | (with_reducible refine LeO.bind ?_ (fun _ => ?_))
   | exact ih0 _ _ _
   | exact LeO.none _
   | refine LeO.ite ?_ ?_
   | refine LeO.bind ?_ (fun _ => ?_)
set_option maxHeartbeats 8000000 in
set_option maxRecDepth 100000 in
theorem whetstoneref01_Of.calls (k : Nat) (A0 : Option Addr) (c0 : Nat) (l0 : List Int) (r : Int) (w : World) (hr0 : Kd.C (Kd.int .u32) w A0 l0.length l0) (hc0 : l0.length ≤ c0) (h : whetstoneref01_Of.f k l0 = some r) :
  Calls Try.prog 79 #[.slice A0 l0.length c0] w fun e w' => e = .returned (.int .u32 r) ∧ Drawn0 w w' := by
 have HR0 := Aside0.mk hr0
 have HC0 := Aside0.mk hc0
 clear hr0 hc0
 have H : (whetstoneref01_Of.l0 k l0 0 31) = some r := h
 clear h
 have H' := Aside0.mk H
 clear H
 go_enter Try.func79, Try.ntmps79
 go_wp2
 go_loopg [3, 4] k (fun kq v3 v4 w' => ∃ (x3_1 : Int) (x4_1 : Int), v3 = .int .u32 x3_1 ∧ v4 = .int .i64 x4_1 ∧ Aside0 (whetstoneref01_Of.l0 kq l0 x3_1 x4_1 = some r) ∧ Aside0 (kq ≤ k) ∧ Drawn0 w w')
 case atStart => exact ⟨(0), (31), (by first | rfl | (simp; done) | (simp [*]; done)), (by first | rfl | (simp; done) | (simp [*]; done)), H', ⟨Nat.le_refl _⟩, by repeat (first | exact Drawn0.refl _ | apply Drawn0.step)⟩
 case round =>
  clear H'
  obtain ⟨x3_1, x4_1, rfl, rfl, HA, HK1, ⟨m1, rfl⟩⟩ := hrel
  cases gk with
  | zero => exact absurd HA.out (by simp [whetstoneref01_Of.l0])
  | succ k1 =>
   have H := HA.out
   clear HA
   simp only [whetstoneref01_Of.l0] at H
   by_cases c2 : x4_1 ≥ 0
   ·rw [if_pos c2] at H
    have c2b0 : decide (0 ≤ x4_1) = true := decide_eq_true c2
    clear c2
    by_cases c3 : 0 ≤ x4_1
    ·rw [if_pos c3] at H
     have c3b0 : decide (0 ≤ x4_1) = true := decide_eq_true c3
     clear c3
     by_cases c4 : x4_1 < (l0.length : Int)
     ·rw [if_pos c4] at H
      have c4b0 : decide (x4_1 < (l0.length : Int)) = true := decide_eq_true c4
      clear c4
      have H' := Aside0.mk H
      clear H
      have p196 : 0 ≤ (x4_1 : Int) := of_decide_eq_true (by first | (with_reducible assumption) | assumption)
      have q196 : x4_1 < (l0.length : Int) := of_decide_eq_true (by first | (with_reducible assumption) | assumption)
      obtain ⟨ad196, e196, hx196_0⟩ := Kd.at_int HR0.out x4_1 p196 q196
      cases e196
      replace p196 := eq_true p196
      replace q196 := eq_true q196
      go_wp2
      go_roundg k1
      case measure => have := HK1.out; omega
      case rel => exact ⟨(((x3_1 * 2) + (rd l0 x4_1)) % 4294967296), (wrap64 (x4_1 - 1)), (by first | rfl | (simp; done) | (simp [*]; done)), (by first | rfl | (simp; done) | (simp [*]; done)), H', ⟨by have := HK1.out; omega⟩, by repeat (first | exact Drawn0.refl _ | apply Drawn0.step)⟩
     ·rw [if_neg c4] at H
      exact absurd H (by simp)
    ·rw [if_neg c3] at H
     exact absurd H (by simp)
   ·rw [if_neg c2] at H
    have c2b0 : decide (0 ≤ x4_1) = false := decide_eq_false c2
    clear c2
    obtain rfl := Option.some.inj H
    go_wp2
    go_ret
    exact ⟨by first | rfl | (simp; done) | (simp [*]; done), by repeat (first | exact Drawn0.refl _ | apply Drawn0.step)⟩
def whetstoneref01_bits.l0 : Nat → Int → Int → Int → List Int → Int → Option (Int)
 | 0, _, _, _, _, _ => none
 | k + 1, x0, x1, x2, x7, x8 => if x8 < 32 then ((whetstoneref01_Bit.f x1 x8).bind fun t201 => ((whetstoneref01_Bit.f x2 x8).bind fun t202 => (if x0 = 36 then (if 0 ≤ x8 then (if x8 < (x7.length : Int) then (whetstoneref01_bits.l0 k x0 x1 x2 (x7.set (x8 : Int).toNat ((t201 * t202) % 4294967296)) (wrap64 (x8 + 1))) else (none)) else (none)) else (if x0 = 35 then (if 0 ≤ x8 then (if x8 < (x7.length : Int) then (whetstoneref01_bits.l0 k x0 x1 x2 (x7.set (x8 : Int).toNat (((t201 + t202) - (t201 * t202)) % 4294967296)) (wrap64 (x8 + 1))) else (none)) else (none)) else (if x0 = 32 then (if 0 ≤ x8 then (if x8 < (x7.length : Int) then (whetstoneref01_bits.l0 k x0 x1 x2 (x7.set (x8 : Int).toNat (((t201 + t202) % 4294967296) % 2)) (wrap64 (x8 + 1))) else (none)) else (none)) else (whetstoneref01_bits.l0 k x0 x1 x2 x7 (wrap64 (x8 + 1)))))))) else ((whetstoneref01_Of.f k x7).bind fun t200 => (some t200))
def whetstoneref01_bits.f (k : Nat) (a0 : Int) (a1 : Int) (a2 : Int) : Option (Int) := if 32 ≤ 70368744177664 then (whetstoneref01_bits.l0 k a0 a1 a2 (List.replicate 32 0) 0) else (none)
theorem whetstoneref01_bits.mono_l : ∀ k, (∀ y0 y1 y2 y3 y4, LeO (whetstoneref01_bits.l0 k y0 y1 y2 y3 y4) (whetstoneref01_bits.l0 (k + 1) y0 y1 y2 y3 y4))
 | 0 => fun _ _ _ _ _ r h => by simp [whetstoneref01_bits.l0] at h
 | k + 1 => by
  have ih0 := whetstoneref01_bits.mono_l k
  ·intro y0 y1 y2 y3 y4
   unfold whetstoneref01_bits.l0
   repeat' first
   | (with_reducible exact ih0 _ _ _ _ _)
   | (with_reducible exact whetstoneref01_Of.mono _ _)
   | (with_reducible exact LeO.refl _)
   | (with_reducible exact LeO.none _)
   | (with_reducible refine LeO.ite ?_ ?_)
   | (with_reducible refine LeO.bind ?_ (fun _ => ?_))
   | exact ih0 _ _ _ _ _
   | exact whetstoneref01_Of.mono _ _
   | exact LeO.none _
   | refine LeO.ite ?_ ?_
   | refine LeO.bind ?_ (fun _ => ?_)
theorem whetstoneref01_bits.mono : ∀ a0 a1 a2 k, LeO (whetstoneref01_bits.f k a0 a1 a2) (whetstoneref01_bits.f (k + 1) a0 a1 a2) := by
 intro a0 a1 a2 k
 have ih0 := whetstoneref01_bits.mono_l k
 unfold whetstoneref01_bits.f
 repeat' first
   | (with_reducible exact ih0 _ _ _ _ _)
   | (with_reducible exact whetstoneref01_Of.mono _ _)
   | (with_reducible exact LeO.refl _)
   | (with_reducible exact LeO.none _)
   | (with_reducible refine LeO.ite ?_ ?_)
   | (with_reducible refine LeO.bind ?_ (fun _ => ?_))
   | exact ih0 _ _ _ _ _
   | exact whetstoneref01_Of.mono _ _
   | exact LeO.none _
   | refine LeO.ite ?_ ?_
   | refine LeO.bind ?_ (fun _ => ?_)
set_option maxHeartbeats 8000000 in
set_option maxRecDepth 100000 in
theorem whetstoneref01_bits.calls (k : Nat) (a0 : Int) (a1 : Int) (a2 : Int) (r : Int) (w : World) (h : whetstoneref01_bits.f k a0 a1 a2 = some r) :
  Calls Try.prog 57 #[.int .i64 a0, .int .u32 a1, .int .u32 a2] w fun e w' => e = .returned (.int .u32 r) ∧ Below w.heap.size w w' := by
 have HB := Aside0.mk (Below.refl w.heap.size w)
 have H : (if 32 ≤ 70368744177664 then (whetstoneref01_bits.l0 k a0 a1 a2 (List.replicate 32 0) 0) else (none)) = some r := h
 clear h
 by_cases c4 : 32 ≤ 70368744177664
 ·rw [if_pos c4] at H
  have c4b0 := eq_true c4
  have c4b1 : decide (32 ≤ 70368744177664) = true := decide_eq_true c4
  clear c4
  obtain ⟨y197, hy197⟩ : ∃ y_ : List Int, y_ = (List.replicate 32 0) := ⟨_, rfl⟩
  replace H : (whetstoneref01_bits.l0 k a0 a1 a2 y197 0) = some r := by first | (rw [hy197]; with_reducible exact H) | (have H2_ := (Option.bind_some _ _).symm.trans H; rw [hy197]; with_reducible exact H2_) | (have H2_ := (Option.bind_some _ _).symm.trans H; with_reducible exact H2_) | with_reducible exact H | (rw [hy197]; exact H) | exact H
  have Ny197 := Aside0.mk hy197
  clear hy197
  have H' := Aside0.mk H
  clear H
  go_enter Try.func57, Try.ntmps57
  go_wp2_with (first | ((with_reducible refine gate_dst (N := 11) rfl ?_); refine Kd.R_make (Kd.int .u32) _ 22 rfl (N := 11) rfl 32 _ _ rfl 32 rfl rfl Try.underlying32 (.int .u32 0) 4 info22 rfl (by decide) (by omega) 0 (ok := fun _ => True) (okp := fun _ => True) rfl (fun _ hk => hk) trivial (by omega) (by omega) (Below.refl _ _) (Nat.le_refl _) ?_; intro v198 w5 ho6 hb hg_ hnew_; clear hg_ hnew_; (first | rw [← Ny197.out] at ho6 | (simp only [Int.reduceToNat] at ho6; rw [← Ny197.out] at ho6)); have n0_ := Aside0.mk (Kd.R_lower ho6 (below_size (by repeat (first | (with_reducible first | exact HB.out | apply below_alloc | apply pw_below_drewN | apply below_drew1) | exact HB.out)))); have n1_ := Aside0.mk (below_step (by repeat (first | (with_reducible first | exact HB.out | apply below_alloc | apply pw_below_drewN | apply below_drew1) | exact HB.out)) hb); clear HB; have HO199 := n0_; have HB := n1_; clear n0_ n1_; clear hb ho6))
  go_loopg [8] k (fun kq v8 w' => ∃ (x7_1 : List Int) (x8_1 : Int), v8 = .int .i64 x8_1 ∧ Aside0 (whetstoneref01_bits.l0 kq a0 a1 a2 x7_1 x8_1 = some r) ∧ Aside0 (kq ≤ k) ∧ Aside0 (Kd.R (Kd.int .u32) 22 w' w.heap.size (fun _ => True) v198 x7_1) ∧ Aside0 (Below w.heap.size w w'))
  case atStart => exact ⟨(y197), (0), (by first | rfl | (simp; done) | (simp [*]; done)), H', ⟨Nat.le_refl _⟩, ⟨by (with_reducible repeat (first | apply Kd.R_alloc | apply Kd.R_drewN | apply Kd.R_drew)); exact HO199.out⟩, ⟨by repeat (first | (with_reducible first | exact HB.out | apply below_alloc | apply pw_below_drewN | apply below_drew1) | exact HB.out)⟩⟩
  case round =>
   clear H'
   try clear p2
   try clear c4
   try clear c4b0
   try clear c4b1
   try clear c5
   obtain ⟨x7_1, x8_1, rfl, HA, HK1, HO_7, HB⟩ := hrel
   cases gk with
   | zero => exact absurd HA.out (by simp [whetstoneref01_bits.l0])
   | succ k1 =>
    have H := HA.out
    clear HA
    simp only [whetstoneref01_bits.l0] at H
    by_cases c7 : x8_1 < 32
    ·rw [if_pos c7] at H
     have c7b0 : decide (x8_1 < 32) = true := decide_eq_true c7
     clear c7
     replace H := Option.bind_eq_some_iff.mp H
     obtain ⟨t201, A80, H⟩ := H
     replace H : ((whetstoneref01_Bit.f a2 x8_1).bind fun t202 => (if a0 = 36 then (if 0 ≤ x8_1 then (if x8_1 < (x7_1.length : Int) then (whetstoneref01_bits.l0 k1 a0 a1 a2 (x7_1.set (x8_1 : Int).toNat ((t201 * t202) % 4294967296)) (wrap64 (x8_1 + 1))) else (none)) else (none)) else (if a0 = 35 then (if 0 ≤ x8_1 then (if x8_1 < (x7_1.length : Int) then (whetstoneref01_bits.l0 k1 a0 a1 a2 (x7_1.set (x8_1 : Int).toNat (((t201 + t202) - (t201 * t202)) % 4294967296)) (wrap64 (x8_1 + 1))) else (none)) else (none)) else (if a0 = 32 then (if 0 ≤ x8_1 then (if x8_1 < (x7_1.length : Int) then (whetstoneref01_bits.l0 k1 a0 a1 a2 (x7_1.set (x8_1 : Int).toNat (((t201 + t202) % 4294967296) % 2)) (wrap64 (x8_1 + 1))) else (none)) else (none)) else (whetstoneref01_bits.l0 k1 a0 a1 a2 x7_1 (wrap64 (x8_1 + 1))))))) = some r := H
     have A8 := Aside0.mk A80
     clear A80
     replace H := Option.bind_eq_some_iff.mp H
     obtain ⟨t202, A90, H⟩ := H
     replace H : (if a0 = 36 then (if 0 ≤ x8_1 then (if x8_1 < (x7_1.length : Int) then (whetstoneref01_bits.l0 k1 a0 a1 a2 (x7_1.set (x8_1 : Int).toNat ((t201 * t202) % 4294967296)) (wrap64 (x8_1 + 1))) else (none)) else (none)) else (if a0 = 35 then (if 0 ≤ x8_1 then (if x8_1 < (x7_1.length : Int) then (whetstoneref01_bits.l0 k1 a0 a1 a2 (x7_1.set (x8_1 : Int).toNat (((t201 + t202) - (t201 * t202)) % 4294967296)) (wrap64 (x8_1 + 1))) else (none)) else (none)) else (if a0 = 32 then (if 0 ≤ x8_1 then (if x8_1 < (x7_1.length : Int) then (whetstoneref01_bits.l0 k1 a0 a1 a2 (x7_1.set (x8_1 : Int).toNat (((t201 + t202) % 4294967296) % 2)) (wrap64 (x8_1 + 1))) else (none)) else (none)) else (whetstoneref01_bits.l0 k1 a0 a1 a2 x7_1 (wrap64 (x8_1 + 1)))))) = some r := H
     have A9 := Aside0.mk A90
     clear A90
     by_cases c10 : a0 = 36
     ·rw [if_pos c10] at H
      have c10b0 : (a0 == 36) = true := beq_iff_eq.mpr c10
      have c10b1 : (a0 != 36) = false := bne_eq_false_iff_eq.mpr c10
      clear c10
      by_cases c11 : 0 ≤ x8_1
      ·rw [if_pos c11] at H
       have c11b0 : decide (0 ≤ x8_1) = true := decide_eq_true c11
       clear c11
       by_cases c12 : x8_1 < (x7_1.length : Int)
       ·rw [if_pos c12] at H
        have c12b0 : decide (x8_1 < (x7_1.length : Int)) = true := decide_eq_true c12
        clear c12
        obtain ⟨y203, hy203⟩ : ∃ y_ : List Int, y_ = (x7_1.set (x8_1 : Int).toNat ((t201 * t202) % 4294967296)) := ⟨_, rfl⟩
        replace H : (whetstoneref01_bits.l0 k1 a0 a1 a2 y203 (wrap64 (x8_1 + 1))) = some r := by first | (rw [hy203]; with_reducible exact H) | (have H2_ := (Option.bind_some _ _).symm.trans H; rw [hy203]; with_reducible exact H2_) | (have H2_ := (Option.bind_some _ _).symm.trans H; with_reducible exact H2_) | with_reducible exact H | (rw [hy203]; exact H) | exact H
        have Ny203 := Aside0.mk hy203
        clear hy203
        have H' := Aside0.mk H
        clear H
        go_wp2_with (first | ((with_reducible refine gate_callee (f := 45) rfl ?_); refine goesL_ (some 18) rfl rfl Try.func45 (by kernel_rfl) rfl #[.int .u32 a1, .int .i64 x8_1] rfl (by (try simp only [List.map_toArray, List.map_cons, List.map_nil]); first | done | rfl | (simp only [List.length_drop, List.length_take]; rfl)) ?_; (with_reducible refine (whetstoneref01_Bit.calls a1 x8_1 t201 _ A8.out).mono ?_); rintro e w' ⟨rfl, ⟨nd, rfl⟩⟩; refine ⟨_, rfl, ?_⟩; (try (rw [drewN_self wr]; generalize hq_ : World.drewN wr _ = wr; have n0_ : Aside0 (Kd.R (Kd.int .u32) 22 wr w.heap.size (fun _ => True) v198 x7_1) := ⟨by rw [← hq_]; exact (by (with_reducible repeat (first | apply Kd.R_alloc | apply Kd.R_drewN | apply Kd.R_drew)); exact HO_7.out)⟩; have n1_ : Aside0 (Below w.heap.size w wr) := ⟨by rw [← hq_]; exact (by repeat (first | (with_reducible first | exact HB.out | apply below_alloc | apply pw_below_drewN | apply below_drew1) | exact HB.out))⟩; clear HO_7 HB hq_; have HO_7 := n0_; have HB := n1_; clear n0_ n1_))) | ((with_reducible refine gate_callee (f := 45) rfl ?_); refine goesL_ (some 21) rfl rfl Try.func45 (by kernel_rfl) rfl #[.int .u32 a2, .int .i64 x8_1] rfl (by (try simp only [List.map_toArray, List.map_cons, List.map_nil]); first | done | rfl | (simp only [List.length_drop, List.length_take]; rfl)) ?_; (with_reducible refine (whetstoneref01_Bit.calls a2 x8_1 t202 _ A9.out).mono ?_); rintro e w' ⟨rfl, ⟨nd, rfl⟩⟩; refine ⟨_, rfl, ?_⟩; (try (rw [drewN_self wr]; generalize hq_ : World.drewN wr _ = wr; have n0_ : Aside0 (Kd.R (Kd.int .u32) 22 wr w.heap.size (fun _ => True) v198 x7_1) := ⟨by rw [← hq_]; exact (by (with_reducible repeat (first | apply Kd.R_alloc | apply Kd.R_drewN | apply Kd.R_drew)); exact HO_7.out)⟩; have n1_ : Aside0 (Below w.heap.size w wr) := ⟨by rw [← hq_]; exact (by repeat (first | (with_reducible first | exact HB.out | apply below_alloc | apply pw_below_drewN | apply below_drew1) | exact HB.out))⟩; clear HO_7 HB hq_; have HO_7 := n0_; have HB := n1_; clear n0_ n1_)); have p13 : 0 ≤ (x8_1 : Int) := of_decide_eq_true (by first | (with_reducible assumption) | assumption); have q13 : (x8_1 : Int) < ((x7_1.length : Int) : Int) := of_decide_eq_true (by first | (with_reducible assumption) | assumption); obtain ⟨go13, co13, eo13, gb13, gl13, cl13, HG13⟩ := Kd.R_form HO_7.out (by omega); (first | cases eo13 | (injection eo13 with ea_ en_ ec_; (first | subst ea_ | (injection ea_ with ea_; subst ea_)); subst ec_; clear en_)); have GB13 := Aside0.mk gb13; have GG13 := Aside0.mk HG13; clear gb13 gl13 HG13; obtain ⟨hx13_0, hf13_0⟩ := Kd.R_celln 0 HO_7.out (x8_1 : Int) p13 q13; replace p13 := eq_true p13; replace q13 := eq_true q13; obtain ⟨hy14_, hz14_⟩ := Kd.R_celln 0 HO_7.out (x8_1 : Int) (of_decide_eq_true (by first | (with_reducible assumption) | assumption)) (of_decide_eq_true (by first | (with_reducible assumption) | assumption)); have HP14 := Kd.R_putg HO_7.out (x8_1 : Int) ((t201 * t202) % 4294967296)) | ((with_reducible refine gate_store (t := 22) (p := 30) rfl ?_); refine store_event (t := 22) (p := 30) (v := ?vo_w15) (w1 := (wr.setCell ⟨go13, (x8_1 : Int).toNat, none⟩ (.int .u32 ((t201 * t202) % 4294967296)))) ?hg ?ho ?hn ?hr ?_; (case ho => rfl); (case hg => rfl); (case hn => rfl); (case hr => first | (go_simp; done) | (go_simp; rfl)); intro w15 hw; have hg : wr.grownBy w15 (some go13) := (by rw [hw]; exact HP14.2); have hp_ : Kd.R (Kd.int .u32) 22 w15 w.heap.size (fun _ => True) (.slice (some ⟨go13, 0, none⟩) x7_1.length co13) y203 := (by rw [hw, Ny203.out]; exact HP14.1); clear HP14; have n0_ := Aside0.mk (hp_); have n1_ := Aside0.mk ((by rw [hw]; exact below_set (HB.out) GB13.out : Below w.heap.size w w15)); clear HO_7; clear HB; have HO_7 := n0_; have HB := n1_; clear n0_ n1_; clear hg hw hp_))
        go_roundg k1
        case measure => have := HK1.out; omega
        case rel => exact ⟨(y203), (wrap64 (x8_1 + 1)), (by first | rfl | (simp; done) | (simp [*]; done)), H', ⟨by have := HK1.out; omega⟩, ⟨by (with_reducible repeat (first | apply Kd.R_alloc | apply Kd.R_drewN | apply Kd.R_drew)); exact HO_7.out⟩, ⟨by repeat (first | (with_reducible first | exact HB.out | apply below_alloc | apply pw_below_drewN | apply below_drew1) | exact HB.out)⟩⟩
       ·rw [if_neg c12] at H
        exact absurd H (by simp)
      ·rw [if_neg c11] at H
       exact absurd H (by simp)
     ·rw [if_neg c10] at H
      have c10b0 : (a0 == 36) = false := beq_eq_false_iff_ne.mpr c10
      have c10b1 : (a0 != 36) = true := bne_iff_ne.mpr c10
      by_cases c16 : a0 = 35
      ·rw [if_pos c16] at H
       have c16b0 : (a0 == 35) = true := beq_iff_eq.mpr c16
       have c16b1 : (a0 != 35) = false := bne_eq_false_iff_eq.mpr c16
       clear c16
       by_cases c17 : 0 ≤ x8_1
       ·rw [if_pos c17] at H
        have c17b0 : decide (0 ≤ x8_1) = true := decide_eq_true c17
        clear c17
        by_cases c18 : x8_1 < (x7_1.length : Int)
        ·rw [if_pos c18] at H
         have c18b0 : decide (x8_1 < (x7_1.length : Int)) = true := decide_eq_true c18
         clear c18
         obtain ⟨y204, hy204⟩ : ∃ y_ : List Int, y_ = (x7_1.set (x8_1 : Int).toNat (((t201 + t202) - (t201 * t202)) % 4294967296)) := ⟨_, rfl⟩
         replace H : (whetstoneref01_bits.l0 k1 a0 a1 a2 y204 (wrap64 (x8_1 + 1))) = some r := by first | (rw [hy204]; with_reducible exact H) | (have H2_ := (Option.bind_some _ _).symm.trans H; rw [hy204]; with_reducible exact H2_) | (have H2_ := (Option.bind_some _ _).symm.trans H; with_reducible exact H2_) | with_reducible exact H | (rw [hy204]; exact H) | exact H
         have Ny204 := Aside0.mk hy204
         clear hy204
         have H' := Aside0.mk H
         clear H
         go_wp2_with (first | ((with_reducible refine gate_callee (f := 45) rfl ?_); refine goesL_ (some 18) rfl rfl Try.func45 (by kernel_rfl) rfl #[.int .u32 a1, .int .i64 x8_1] rfl (by (try simp only [List.map_toArray, List.map_cons, List.map_nil]); first | done | rfl | (simp only [List.length_drop, List.length_take]; rfl)) ?_; (with_reducible refine (whetstoneref01_Bit.calls a1 x8_1 t201 _ A8.out).mono ?_); rintro e w' ⟨rfl, ⟨nd, rfl⟩⟩; refine ⟨_, rfl, ?_⟩; (try (rw [drewN_self wr]; generalize hq_ : World.drewN wr _ = wr; have n0_ : Aside0 (Kd.R (Kd.int .u32) 22 wr w.heap.size (fun _ => True) v198 x7_1) := ⟨by rw [← hq_]; exact (by (with_reducible repeat (first | apply Kd.R_alloc | apply Kd.R_drewN | apply Kd.R_drew)); exact HO_7.out)⟩; have n1_ : Aside0 (Below w.heap.size w wr) := ⟨by rw [← hq_]; exact (by repeat (first | (with_reducible first | exact HB.out | apply below_alloc | apply pw_below_drewN | apply below_drew1) | exact HB.out))⟩; clear HO_7 HB hq_; have HO_7 := n0_; have HB := n1_; clear n0_ n1_))) | ((with_reducible refine gate_callee (f := 45) rfl ?_); refine goesL_ (some 21) rfl rfl Try.func45 (by kernel_rfl) rfl #[.int .u32 a2, .int .i64 x8_1] rfl (by (try simp only [List.map_toArray, List.map_cons, List.map_nil]); first | done | rfl | (simp only [List.length_drop, List.length_take]; rfl)) ?_; (with_reducible refine (whetstoneref01_Bit.calls a2 x8_1 t202 _ A9.out).mono ?_); rintro e w' ⟨rfl, ⟨nd, rfl⟩⟩; refine ⟨_, rfl, ?_⟩; (try (rw [drewN_self wr]; generalize hq_ : World.drewN wr _ = wr; have n0_ : Aside0 (Kd.R (Kd.int .u32) 22 wr w.heap.size (fun _ => True) v198 x7_1) := ⟨by rw [← hq_]; exact (by (with_reducible repeat (first | apply Kd.R_alloc | apply Kd.R_drewN | apply Kd.R_drew)); exact HO_7.out)⟩; have n1_ : Aside0 (Below w.heap.size w wr) := ⟨by rw [← hq_]; exact (by repeat (first | (with_reducible first | exact HB.out | apply below_alloc | apply pw_below_drewN | apply below_drew1) | exact HB.out))⟩; clear HO_7 HB hq_; have HO_7 := n0_; have HB := n1_; clear n0_ n1_)); have p19 : 0 ≤ (x8_1 : Int) := of_decide_eq_true (by first | (with_reducible assumption) | assumption); have q19 : (x8_1 : Int) < ((x7_1.length : Int) : Int) := of_decide_eq_true (by first | (with_reducible assumption) | assumption); obtain ⟨go19, co19, eo19, gb19, gl19, cl19, HG19⟩ := Kd.R_form HO_7.out (by omega); (first | cases eo19 | (injection eo19 with ea_ en_ ec_; (first | subst ea_ | (injection ea_ with ea_; subst ea_)); subst ec_; clear en_)); have GB19 := Aside0.mk gb19; have GG19 := Aside0.mk HG19; clear gb19 gl19 HG19; obtain ⟨hx19_0, hf19_0⟩ := Kd.R_celln 0 HO_7.out (x8_1 : Int) p19 q19; replace p19 := eq_true p19; replace q19 := eq_true q19; obtain ⟨hy20_, hz20_⟩ := Kd.R_celln 0 HO_7.out (x8_1 : Int) (of_decide_eq_true (by first | (with_reducible assumption) | assumption)) (of_decide_eq_true (by first | (with_reducible assumption) | assumption)); have HP20 := Kd.R_putg HO_7.out (x8_1 : Int) (((t201 + t202) - (t201 * t202)) % 4294967296)) | ((with_reducible refine gate_store (t := 22) (p := 42) rfl ?_); refine store_event (t := 22) (p := 42) (v := ?vo_w21) (w1 := (wr.setCell ⟨go19, (x8_1 : Int).toNat, none⟩ (.int .u32 (((t201 + t202) - (t201 * t202)) % 4294967296)))) ?hg ?ho ?hn ?hr ?_; (case ho => rfl); (case hg => rfl); (case hn => rfl); (case hr => first | (go_simp; done) | (go_simp; rfl)); intro w21 hw; have hg : wr.grownBy w21 (some go19) := (by rw [hw]; exact HP20.2); have hp_ : Kd.R (Kd.int .u32) 22 w21 w.heap.size (fun _ => True) (.slice (some ⟨go19, 0, none⟩) x7_1.length co19) y204 := (by rw [hw, Ny204.out]; exact HP20.1); clear HP20; have n0_ := Aside0.mk (hp_); have n1_ := Aside0.mk ((by rw [hw]; exact below_set (HB.out) GB19.out : Below w.heap.size w w21)); clear HO_7; clear HB; have HO_7 := n0_; have HB := n1_; clear n0_ n1_; clear hg hw hp_))
         go_roundg k1
         case measure => have := HK1.out; omega
         case rel => exact ⟨(y204), (wrap64 (x8_1 + 1)), (by first | rfl | (simp; done) | (simp [*]; done)), H', ⟨by have := HK1.out; omega⟩, ⟨by (with_reducible repeat (first | apply Kd.R_alloc | apply Kd.R_drewN | apply Kd.R_drew)); exact HO_7.out⟩, ⟨by repeat (first | (with_reducible first | exact HB.out | apply below_alloc | apply pw_below_drewN | apply below_drew1) | exact HB.out)⟩⟩
        ·rw [if_neg c18] at H
         exact absurd H (by simp)
       ·rw [if_neg c17] at H
        exact absurd H (by simp)
      ·rw [if_neg c16] at H
       have c16b0 : (a0 == 35) = false := beq_eq_false_iff_ne.mpr c16
       have c16b1 : (a0 != 35) = true := bne_iff_ne.mpr c16
       by_cases c22 : a0 = 32
       ·rw [if_pos c22] at H
        have c22b0 : (a0 == 32) = true := beq_iff_eq.mpr c22
        have c22b1 : (a0 != 32) = false := bne_eq_false_iff_eq.mpr c22
        clear c22
        by_cases c23 : 0 ≤ x8_1
        ·rw [if_pos c23] at H
         have c23b0 : decide (0 ≤ x8_1) = true := decide_eq_true c23
         clear c23
         by_cases c24 : x8_1 < (x7_1.length : Int)
         ·rw [if_pos c24] at H
          have c24b0 : decide (x8_1 < (x7_1.length : Int)) = true := decide_eq_true c24
          clear c24
          obtain ⟨y205, hy205⟩ : ∃ y_ : List Int, y_ = (x7_1.set (x8_1 : Int).toNat (((t201 + t202) % 4294967296) % 2)) := ⟨_, rfl⟩
          replace H : (whetstoneref01_bits.l0 k1 a0 a1 a2 y205 (wrap64 (x8_1 + 1))) = some r := by first | (rw [hy205]; with_reducible exact H) | (have H2_ := (Option.bind_some _ _).symm.trans H; rw [hy205]; with_reducible exact H2_) | (have H2_ := (Option.bind_some _ _).symm.trans H; with_reducible exact H2_) | with_reducible exact H | (rw [hy205]; exact H) | exact H
          have Ny205 := Aside0.mk hy205
          clear hy205
          have H' := Aside0.mk H
          clear H
          go_wp2_with (first | ((with_reducible refine gate_callee (f := 45) rfl ?_); refine goesL_ (some 18) rfl rfl Try.func45 (by kernel_rfl) rfl #[.int .u32 a1, .int .i64 x8_1] rfl (by (try simp only [List.map_toArray, List.map_cons, List.map_nil]); first | done | rfl | (simp only [List.length_drop, List.length_take]; rfl)) ?_; (with_reducible refine (whetstoneref01_Bit.calls a1 x8_1 t201 _ A8.out).mono ?_); rintro e w' ⟨rfl, ⟨nd, rfl⟩⟩; refine ⟨_, rfl, ?_⟩; (try (rw [drewN_self wr]; generalize hq_ : World.drewN wr _ = wr; have n0_ : Aside0 (Kd.R (Kd.int .u32) 22 wr w.heap.size (fun _ => True) v198 x7_1) := ⟨by rw [← hq_]; exact (by (with_reducible repeat (first | apply Kd.R_alloc | apply Kd.R_drewN | apply Kd.R_drew)); exact HO_7.out)⟩; have n1_ : Aside0 (Below w.heap.size w wr) := ⟨by rw [← hq_]; exact (by repeat (first | (with_reducible first | exact HB.out | apply below_alloc | apply pw_below_drewN | apply below_drew1) | exact HB.out))⟩; clear HO_7 HB hq_; have HO_7 := n0_; have HB := n1_; clear n0_ n1_))) | ((with_reducible refine gate_callee (f := 45) rfl ?_); refine goesL_ (some 21) rfl rfl Try.func45 (by kernel_rfl) rfl #[.int .u32 a2, .int .i64 x8_1] rfl (by (try simp only [List.map_toArray, List.map_cons, List.map_nil]); first | done | rfl | (simp only [List.length_drop, List.length_take]; rfl)) ?_; (with_reducible refine (whetstoneref01_Bit.calls a2 x8_1 t202 _ A9.out).mono ?_); rintro e w' ⟨rfl, ⟨nd, rfl⟩⟩; refine ⟨_, rfl, ?_⟩; (try (rw [drewN_self wr]; generalize hq_ : World.drewN wr _ = wr; have n0_ : Aside0 (Kd.R (Kd.int .u32) 22 wr w.heap.size (fun _ => True) v198 x7_1) := ⟨by rw [← hq_]; exact (by (with_reducible repeat (first | apply Kd.R_alloc | apply Kd.R_drewN | apply Kd.R_drew)); exact HO_7.out)⟩; have n1_ : Aside0 (Below w.heap.size w wr) := ⟨by rw [← hq_]; exact (by repeat (first | (with_reducible first | exact HB.out | apply below_alloc | apply pw_below_drewN | apply below_drew1) | exact HB.out))⟩; clear HO_7 HB hq_; have HO_7 := n0_; have HB := n1_; clear n0_ n1_)); have p25 : 0 ≤ (x8_1 : Int) := of_decide_eq_true (by first | (with_reducible assumption) | assumption); have q25 : (x8_1 : Int) < ((x7_1.length : Int) : Int) := of_decide_eq_true (by first | (with_reducible assumption) | assumption); obtain ⟨go25, co25, eo25, gb25, gl25, cl25, HG25⟩ := Kd.R_form HO_7.out (by omega); (first | cases eo25 | (injection eo25 with ea_ en_ ec_; (first | subst ea_ | (injection ea_ with ea_; subst ea_)); subst ec_; clear en_)); have GB25 := Aside0.mk gb25; have GG25 := Aside0.mk HG25; clear gb25 gl25 HG25; obtain ⟨hx25_0, hf25_0⟩ := Kd.R_celln 0 HO_7.out (x8_1 : Int) p25 q25; replace p25 := eq_true p25; replace q25 := eq_true q25; obtain ⟨hy26_, hz26_⟩ := Kd.R_celln 0 HO_7.out (x8_1 : Int) (of_decide_eq_true (by first | (with_reducible assumption) | assumption)) (of_decide_eq_true (by first | (with_reducible assumption) | assumption)); have HP26 := Kd.R_putg HO_7.out (x8_1 : Int) (((t201 + t202) % 4294967296) % 2)) | ((with_reducible refine gate_store (t := 22) (p := 51) rfl ?_); refine store_event (t := 22) (p := 51) (v := ?vo_w27) (w1 := (wr.setCell ⟨go25, (x8_1 : Int).toNat, none⟩ (.int .u32 (((t201 + t202) % 4294967296) % 2)))) ?hg ?ho ?hn ?hr ?_; (case ho => rfl); (case hg => rfl); (case hn => rfl); (case hr => first | (go_simp; done) | (go_simp; rfl)); intro w27 hw; have hg : wr.grownBy w27 (some go25) := (by rw [hw]; exact HP26.2); have hp_ : Kd.R (Kd.int .u32) 22 w27 w.heap.size (fun _ => True) (.slice (some ⟨go25, 0, none⟩) x7_1.length co25) y205 := (by rw [hw, Ny205.out]; exact HP26.1); clear HP26; have n0_ := Aside0.mk (hp_); have n1_ := Aside0.mk ((by rw [hw]; exact below_set (HB.out) GB25.out : Below w.heap.size w w27)); clear HO_7; clear HB; have HO_7 := n0_; have HB := n1_; clear n0_ n1_; clear hg hw hp_))
          go_roundg k1
          case measure => have := HK1.out; omega
          case rel => exact ⟨(y205), (wrap64 (x8_1 + 1)), (by first | rfl | (simp; done) | (simp [*]; done)), H', ⟨by have := HK1.out; omega⟩, ⟨by (with_reducible repeat (first | apply Kd.R_alloc | apply Kd.R_drewN | apply Kd.R_drew)); exact HO_7.out⟩, ⟨by repeat (first | (with_reducible first | exact HB.out | apply below_alloc | apply pw_below_drewN | apply below_drew1) | exact HB.out)⟩⟩
         ·rw [if_neg c24] at H
          exact absurd H (by simp)
        ·rw [if_neg c23] at H
         exact absurd H (by simp)
       ·rw [if_neg c22] at H
        have c22b0 : (a0 == 32) = false := beq_eq_false_iff_ne.mpr c22
        have c22b1 : (a0 != 32) = true := bne_iff_ne.mpr c22
        have H' := Aside0.mk H
        clear H
        go_wp2_with (first | ((with_reducible refine gate_callee (f := 45) rfl ?_); refine goesL_ (some 18) rfl rfl Try.func45 (by kernel_rfl) rfl #[.int .u32 a1, .int .i64 x8_1] rfl (by (try simp only [List.map_toArray, List.map_cons, List.map_nil]); first | done | rfl | (simp only [List.length_drop, List.length_take]; rfl)) ?_; (with_reducible refine (whetstoneref01_Bit.calls a1 x8_1 t201 _ A8.out).mono ?_); rintro e w' ⟨rfl, ⟨nd, rfl⟩⟩; refine ⟨_, rfl, ?_⟩) | ((with_reducible refine gate_callee (f := 45) rfl ?_); refine goesL_ (some 21) rfl rfl Try.func45 (by kernel_rfl) rfl #[.int .u32 a2, .int .i64 x8_1] rfl (by (try simp only [List.map_toArray, List.map_cons, List.map_nil]); first | done | rfl | (simp only [List.length_drop, List.length_take]; rfl)) ?_; (with_reducible refine (whetstoneref01_Bit.calls a2 x8_1 t202 _ A9.out).mono ?_); rintro e w' ⟨rfl, ⟨nd, rfl⟩⟩; refine ⟨_, rfl, ?_⟩))
        go_roundg k1
        case measure => have := HK1.out; omega
        case rel => exact ⟨(x7_1), (wrap64 (x8_1 + 1)), (by first | rfl | (simp; done) | (simp [*]; done)), H', ⟨by have := HK1.out; omega⟩, ⟨by (with_reducible repeat (first | apply Kd.R_alloc | apply Kd.R_drewN | apply Kd.R_drew)); exact HO_7.out⟩, ⟨by repeat (first | (with_reducible first | exact HB.out | apply below_alloc | apply pw_below_drewN | apply below_drew1) | exact HB.out)⟩⟩
    ·rw [if_neg c7] at H
     have c7b0 : decide (x8_1 < 32) = false := decide_eq_false c7
     clear c7
     replace H := Option.bind_eq_some_iff.mp H
     obtain ⟨t200, A280, H⟩ := H
     replace H : (some t200) = some r := H
     have A28 := Aside0.mk A280
     clear A280
     obtain rfl := Option.some.inj H
     obtain ⟨Ao29, co29, eo29⟩ := Kd.R_slice HO_7.out
     subst eo29
     go_wp2_with (first | ((with_reducible refine gate_callee (f := 79) rfl ?_); refine goesL_ (some 53) rfl rfl Try.func79 (by kernel_rfl) rfl #[.slice Ao29 x7_1.length co29] rfl (by (try simp only [List.map_toArray, List.map_cons, List.map_nil]); first | done | rfl | (simp only [List.length_drop, List.length_take]; rfl)) ?_; (with_reducible refine (whetstoneref01_Of.calls k1 _ _ x7_1 t200 _ ?side1 ?side2 A28.out).mono ?_); (case side1 => repeat (first | exact (Kd.R_reads' HO_7.out).2.2 | (with_reducible refine Kd.C_alloc ?_ _) | (with_reducible refine Kd.C_drewN ?_ _) | (with_reducible refine Kd.C_drew ?_))); (case side2 => exact (Kd.R_reads' HO_7.out).2.1); rintro e w' ⟨rfl, ⟨nd, rfl⟩⟩; refine ⟨_, rfl, ?_⟩))
     go_ret
     exact ⟨by first | rfl | (simp [errW_none, errW_some] <;> rfl) | (simp [*, errW_none, errW_some] <;> rfl), by repeat (first | (with_reducible first | exact HB.out | apply below_alloc | apply pw_below_drewN | apply below_drew1) | exact HB.out)⟩
 ·rw [if_neg c4] at H
  exact absurd H (by simp)
end Go.Proofs.Ytononmcodecmaaa.Q
