-- Written by this session's own driver (wip/tools/ownprint.py) over the kit's print: walks of the translated Go, each function once.
import Derived.Test.YtegpiempnjbfjaaQx0
import Derived.Test.YtegpiempnjbfjaaQx10
import Derived.Test.YtegpiempnjbfjaaQx12
namespace Go.Proofs.Ytegpiempnjbfjaa.Q
open Go.RowKit Go.Proofs.YtegpiempnjbfjaaW.PrintWords Go.Proofs.YtegpiempnjbfjaaW.PrintLast Go.Proofs.YtegpiempnjbfjaaW.PrintMore
attribute [local go_sem] max2_int min2_int max_two min_two max_three min_three max_four min_four   -- for this text's walks alone
attribute [local go_sem] imax_u32 imax_u8 isg_u32 isg_u8
set_option linter.unusedVariables false
set_option linter.unusedSimpArgs false

/-! ### whetstoneref01_Field: function 35 -/
def whetstoneref01_Field.l0 : Nat → Int → Int → Int → List Int → Int → Option (Int)
  | 0, _, _, _, _, _ => none
  | k + 1, x0, x1, x2, x7, x8 => if x8 < x2 then ((whetstoneref01_may.f x1 x2).bind fun t170 => (if t170 = true then ((whetstoneref01_Bit.f x0 (wrap64 (x1 + x8))).bind fun t171 => (if 0 ≤ x8 then (if x8 < (x7.length : Int) then (whetstoneref01_Field.l0 k x0 x1 x2 (x7.set (x8 : Int).toNat t171) (wrap64 (x8 + 1))) else (none)) else (none))) else ((whetstoneref01_Of.f k x7).bind fun t173 => (some t173)))) else ((whetstoneref01_Of.f k x7).bind fun t174 => (some t174))
def whetstoneref01_Field.f (k : Nat) (a0 : Int) (a1 : Int) (a2 : Int) : Option (Int) := if 32 ≤ 70368744177664 then (whetstoneref01_Field.l0 k a0 a1 a2 (List.replicate 32 0) 0) else (none)
theorem whetstoneref01_Field.mono_l : ∀ k, (∀ y0 y1 y2 y3 y4, LeO (whetstoneref01_Field.l0 k y0 y1 y2 y3 y4) (whetstoneref01_Field.l0 (k + 1) y0 y1 y2 y3 y4))
  | 0 => fun _ _ _ _ _ r h => by simp [whetstoneref01_Field.l0] at h
  | k + 1 => by
    have ih0 := whetstoneref01_Field.mono_l k
    · intro y0 y1 y2 y3 y4
      unfold whetstoneref01_Field.l0
      repeat' first
      | (with_reducible exact ih0 _ _ _ _ _)
      | (with_reducible exact whetstoneref01_Of.mono _ _)
      | (with_reducible exact LeO.refl _)
      | (with_reducible exact LeO.none _)
      | (with_reducible refine LeO.ite ?_ ?_)
      | (with_reducible refine LeO.bind ?_ (fun _ => ?_))
      | exact ih0 _ _ _ _ _
      | exact whetstoneref01_Of.mono _ _
      | exact LeO.none _
      | refine LeO.ite ?_ ?_
      | refine LeO.bind ?_ (fun _ => ?_)
theorem whetstoneref01_Field.mono : ∀ a0 a1 a2 k, LeO (whetstoneref01_Field.f k a0 a1 a2) (whetstoneref01_Field.f (k + 1) a0 a1 a2) := by
  intro a0 a1 a2 k
  have ih0 := whetstoneref01_Field.mono_l k
  unfold whetstoneref01_Field.f
  repeat' first
      | (with_reducible exact ih0 _ _ _ _ _)
      | (with_reducible exact whetstoneref01_Of.mono _ _)
      | (with_reducible exact LeO.refl _)
      | (with_reducible exact LeO.none _)
      | (with_reducible refine LeO.ite ?_ ?_)
      | (with_reducible refine LeO.bind ?_ (fun _ => ?_))
      | exact ih0 _ _ _ _ _
      | exact whetstoneref01_Of.mono _ _
      | exact LeO.none _
      | refine LeO.ite ?_ ?_
      | refine LeO.bind ?_ (fun _ => ?_)
set_option maxHeartbeats 8000000 in
set_option maxRecDepth 100000 in
theorem whetstoneref01_Field.calls (k : Nat) (a0 : Int) (a1 : Int) (a2 : Int) (r : Int) (w : World) (h : whetstoneref01_Field.f k a0 a1 a2 = some r) :
    Calls Try.prog 35 #[.int .u32 a0, .int .i64 a1, .int .i64 a2] w fun e w' => e = .returned (.int .u32 r) ∧ Below w.heap.size w w' := by
  have HB := Aside0.mk (Below.refl w.heap.size w)
  have H : (if 32 ≤ 70368744177664 then (whetstoneref01_Field.l0 k a0 a1 a2 (List.replicate 32 0) 0) else (none)) = some r := h
  clear h
  by_cases c4 : 32 ≤ 70368744177664
  · rw [if_pos c4] at H
    have c4b0 := eq_true c4
    have c4b1 : decide (32 ≤ 70368744177664) = true := decide_eq_true c4
    clear c4
    obtain ⟨y167, hy167⟩ : ∃ y_ : List Int, y_ = (List.replicate 32 0) := ⟨_, rfl⟩
    replace H : (whetstoneref01_Field.l0 k a0 a1 a2 y167 0) = some r := by first | (rw [hy167]; with_reducible exact H) | (have H2_ := (Option.bind_some _ _).symm.trans H; rw [hy167]; with_reducible exact H2_) | (have H2_ := (Option.bind_some _ _).symm.trans H; with_reducible exact H2_) | with_reducible exact H | (rw [hy167]; exact H) | exact H
    have Ny167 := Aside0.mk hy167
    clear hy167
    have H' := Aside0.mk H
    clear H
    go_enter Try.func35, Try.ntmps35
    go_wp2_with (first | ((with_reducible refine gate_dst (N := 9) rfl ?_); refine Kd.R_make (Kd.int .u32) _ 22 rfl (N := 9) rfl 46 _ _ rfl 32 rfl rfl Try.underlying46 (.int .u32 0) 4 info22 rfl (by decide) (by omega) 0 (ok := fun _ => True) (okp := fun _ => True) rfl (fun _ hk => hk) trivial (by omega) (by omega) (Below.refl _ _) (Nat.le_refl _) ?_; intro v168 w5 ho6 hb hg_ hnew_; clear hg_ hnew_; (first | rw [← Ny167.out] at ho6 | (simp only [Int.reduceToNat] at ho6; rw [← Ny167.out] at ho6)); have n0_ := Aside0.mk (Kd.R_lower ho6 (below_size (by repeat (first | (with_reducible first | exact HB.out | apply below_alloc | apply pw_below_drewN | apply below_drew1) | exact HB.out)))); have n1_ := Aside0.mk (below_step (by repeat (first | (with_reducible first | exact HB.out | apply below_alloc | apply pw_below_drewN | apply below_drew1) | exact HB.out)) hb); clear HB; have HO169 := n0_; have HB := n1_; clear n0_ n1_; clear hb ho6))
    go_loopg [8] k (fun kq v8 w' => ∃ (x7_1 : List Int) (x8_1 : Int), v8 = .int .i64 x8_1 ∧ Aside0 (whetstoneref01_Field.l0 kq a0 a1 a2 x7_1 x8_1 = some r) ∧ Aside0 (kq ≤ k) ∧ Aside0 (Kd.R (Kd.int .u32) 22 w' w.heap.size (fun _ => True) v168 x7_1) ∧ Aside0 (Below w.heap.size w w'))
    case atStart => exact ⟨(y167), (0), (by first | rfl | (simp; done) | (simp [*]; done)), H', ⟨Nat.le_refl _⟩, ⟨by (with_reducible repeat (first | apply Kd.R_alloc | apply Kd.R_drewN | apply Kd.R_drew)); exact HO169.out⟩, ⟨by repeat (first | (with_reducible first | exact HB.out | apply below_alloc | apply pw_below_drewN | apply below_drew1) | exact HB.out)⟩⟩
    case round =>
      clear H'
      try clear p2
      try clear c3
      try clear c4
      try clear c4b0
      try clear c4b1
      obtain ⟨x7_1, x8_1, rfl, HA, HK1, HO_7, HB⟩ := hrel
      cases gk with
      | zero => exact absurd HA.out (by simp [whetstoneref01_Field.l0])
      | succ k1 =>
        have H := HA.out
        clear HA
        simp only [whetstoneref01_Field.l0] at H
        by_cases c7 : x8_1 < a2
        · rw [if_pos c7] at H
          have c7b0 : decide (x8_1 < a2) = true := decide_eq_true c7
          clear c7
          replace H := Option.bind_eq_some_iff.mp H
          obtain ⟨t170, A80, H⟩ := H
          replace H : (if t170 = true then ((whetstoneref01_Bit.f a0 (wrap64 (a1 + x8_1))).bind fun t171 => (if 0 ≤ x8_1 then (if x8_1 < (x7_1.length : Int) then (whetstoneref01_Field.l0 k1 a0 a1 a2 (x7_1.set (x8_1 : Int).toNat t171) (wrap64 (x8_1 + 1))) else (none)) else (none))) else ((whetstoneref01_Of.f k1 x7_1).bind fun t173 => (some t173))) = some r := H
          have A8 := Aside0.mk A80
          clear A80
          by_cases c9 : t170 = true
          · subst c9
            have H1 : ((whetstoneref01_Bit.f a0 (wrap64 (a1 + x8_1))).bind fun t171 => (if 0 ≤ x8_1 then (if x8_1 < (x7_1.length : Int) then (whetstoneref01_Field.l0 k1 a0 a1 a2 (x7_1.set (x8_1 : Int).toNat t171) (wrap64 (x8_1 + 1))) else (none)) else (none))) = some r := by rw [if_pos rfl] at H; exact H
            clear H
            have H := H1
            clear H1
            replace H := Option.bind_eq_some_iff.mp H
            obtain ⟨t171, A100, H⟩ := H
            replace H : (if 0 ≤ x8_1 then (if x8_1 < (x7_1.length : Int) then (whetstoneref01_Field.l0 k1 a0 a1 a2 (x7_1.set (x8_1 : Int).toNat t171) (wrap64 (x8_1 + 1))) else (none)) else (none)) = some r := H
            have A10 := Aside0.mk A100
            clear A100
            by_cases c11 : 0 ≤ x8_1
            · rw [if_pos c11] at H
              have c11b0 : decide (0 ≤ x8_1) = true := decide_eq_true c11
              clear c11
              by_cases c12 : x8_1 < (x7_1.length : Int)
              · rw [if_pos c12] at H
                have c12b0 : decide (x8_1 < (x7_1.length : Int)) = true := decide_eq_true c12
                clear c12
                obtain ⟨y172, hy172⟩ : ∃ y_ : List Int, y_ = (x7_1.set (x8_1 : Int).toNat t171) := ⟨_, rfl⟩
                replace H : (whetstoneref01_Field.l0 k1 a0 a1 a2 y172 (wrap64 (x8_1 + 1))) = some r := by first | (rw [hy172]; with_reducible exact H) | (have H2_ := (Option.bind_some _ _).symm.trans H; rw [hy172]; with_reducible exact H2_) | (have H2_ := (Option.bind_some _ _).symm.trans H; with_reducible exact H2_) | with_reducible exact H | (rw [hy172]; exact H) | exact H
                have Ny172 := Aside0.mk hy172
                clear hy172
                have H' := Aside0.mk H
                clear H
                go_wp2_with (first | (go_at_call 40; (with_reducible refine (whetstoneref01_may.calls a1 a2 true _ A8.out).mono ?_); rintro e w' ⟨rfl, ⟨nd, rfl⟩⟩; (try (rw [drewN_self wr]; generalize hq_ : World.drewN wr _ = wr; have n0_ : Aside0 (Kd.R (Kd.int .u32) 22 wr w.heap.size (fun _ => True) v168 x7_1) := ⟨by rw [← hq_]; exact (by (with_reducible repeat (first | apply Kd.R_alloc | apply Kd.R_drewN | apply Kd.R_drew)); exact HO_7.out)⟩; have n1_ : Aside0 (Below w.heap.size w wr) := ⟨by rw [← hq_]; exact (by repeat (first | (with_reducible first | exact HB.out | apply below_alloc | apply pw_below_drewN | apply below_drew1) | exact HB.out))⟩; clear HO_7 HB hq_; have HO_7 := n0_; have HB := n1_; clear n0_ n1_))) | ((with_reducible refine gate_callee (f := 25) rfl ?_); refine goesL_ (some 26) rfl rfl Try.func25 (by kernel_rfl) rfl #[.int .u32 a0, .int .i64 (wrap64 (a1 + x8_1))] rfl (by (try simp only [List.map_toArray, List.map_cons, List.map_nil]); first | done | rfl | (simp only [List.length_drop, List.length_take]; rfl)) ?_; (with_reducible refine (whetstoneref01_Bit.calls a0 (wrap64 (a1 + x8_1)) t171 _ A10.out).mono ?_); rintro e w' ⟨rfl, ⟨nd, rfl⟩⟩; refine ⟨_, rfl, ?_⟩; (try (rw [drewN_self wr]; generalize hq_ : World.drewN wr _ = wr; have n0_ : Aside0 (Kd.R (Kd.int .u32) 22 wr w.heap.size (fun _ => True) v168 x7_1) := ⟨by rw [← hq_]; exact (by (with_reducible repeat (first | apply Kd.R_alloc | apply Kd.R_drewN | apply Kd.R_drew)); exact HO_7.out)⟩; have n1_ : Aside0 (Below w.heap.size w wr) := ⟨by rw [← hq_]; exact (by repeat (first | (with_reducible first | exact HB.out | apply below_alloc | apply pw_below_drewN | apply below_drew1) | exact HB.out))⟩; clear HO_7 HB hq_; have HO_7 := n0_; have HB := n1_; clear n0_ n1_)); have p13 : 0 ≤ (x8_1 : Int) := of_decide_eq_true (by first | (with_reducible assumption) | assumption); have q13 : (x8_1 : Int) < ((x7_1.length : Int) : Int) := of_decide_eq_true (by first | (with_reducible assumption) | assumption); obtain ⟨go13, co13, eo13, gb13, gl13, cl13, HG13⟩ := Kd.R_form HO_7.out (by omega); (first | cases eo13 | (injection eo13 with ea_ en_ ec_; (first | subst ea_ | (injection ea_ with ea_; subst ea_)); subst ec_; clear en_)); have GB13 := Aside0.mk gb13; have GG13 := Aside0.mk HG13; clear gb13 gl13 HG13; obtain ⟨hx13_0, hf13_0⟩ := Kd.R_celln 0 HO_7.out (x8_1 : Int) p13 q13; replace p13 := eq_true p13; replace q13 := eq_true q13; obtain ⟨hy14_, hz14_⟩ := Kd.R_celln 0 HO_7.out (x8_1 : Int) (of_decide_eq_true (by first | (with_reducible assumption) | assumption)) (of_decide_eq_true (by first | (with_reducible assumption) | assumption)); have HP14 := Kd.R_putg HO_7.out (x8_1 : Int) t171) | ((with_reducible refine gate_store (t := 22) (p := 27) rfl ?_); refine store_event (t := 22) (p := 27) (v := ?vo_w15) (w1 := (wr.setCell ⟨go13, (x8_1 : Int).toNat, none⟩ (.int .u32 t171))) ?hg ?ho ?hn ?hr ?_; (case ho => rfl); (case hg => rfl); (case hn => rfl); (case hr => first | (go_simp; done) | (go_simp; rfl)); intro w15 hw; have hg : wr.grownBy w15 (some go13) := (by rw [hw]; exact HP14.2); have hp_ : Kd.R (Kd.int .u32) 22 w15 w.heap.size (fun _ => True) (.slice (some ⟨go13, 0, none⟩) x7_1.length co13) y172 := (by rw [hw, Ny172.out]; exact HP14.1); clear HP14; have n0_ := Aside0.mk (hp_); have n1_ := Aside0.mk ((by rw [hw]; exact below_set (HB.out) GB13.out : Below w.heap.size w w15)); clear HO_7; clear HB; have HO_7 := n0_; have HB := n1_; clear n0_ n1_; clear hg hw hp_))
                go_roundg k1
                case measure => have := HK1.out; omega
                case rel => exact ⟨(y172), (wrap64 (x8_1 + 1)), (by first | rfl | (simp; done) | (simp [*]; done)), H', ⟨by have := HK1.out; omega⟩, ⟨by (with_reducible repeat (first | apply Kd.R_alloc | apply Kd.R_drewN | apply Kd.R_drew)); exact HO_7.out⟩, ⟨by repeat (first | (with_reducible first | exact HB.out | apply below_alloc | apply pw_below_drewN | apply below_drew1) | exact HB.out)⟩⟩
              · rw [if_neg c12] at H
                exact absurd H (by simp)
            · rw [if_neg c11] at H
              exact absurd H (by simp)
          · replace c9 := Bool.eq_false_iff.mpr c9
            subst c9
            have H1 : ((whetstoneref01_Of.f k1 x7_1).bind fun t173 => (some t173)) = some r := by rw [if_neg (show ¬ (false = true) by decide)] at H; exact H
            clear H
            have H := H1
            clear H1
            replace H := Option.bind_eq_some_iff.mp H
            obtain ⟨t173, A160, H⟩ := H
            replace H : (some t173) = some r := H
            have A16 := Aside0.mk A160
            clear A160
            obtain rfl := Option.some.inj H
            go_wp2_with (first | (go_at_call 40; (with_reducible refine (whetstoneref01_may.calls a1 a2 false _ A8.out).mono ?_); rintro e w' ⟨rfl, ⟨nd, rfl⟩⟩; obtain ⟨Ao17, co17, eo17⟩ := Kd.R_slice HO_7.out; subst eo17) | ((with_reducible refine gate_callee (f := 41) rfl ?_); refine goesL_ (some 29) rfl rfl Try.func41 (by kernel_rfl) rfl #[.slice Ao17 x7_1.length co17] rfl (by (try simp only [List.map_toArray, List.map_cons, List.map_nil]); first | done | rfl | (simp only [List.length_drop, List.length_take]; rfl)) ?_; (with_reducible refine (whetstoneref01_Of.calls k1 _ _ x7_1 t173 _ ?side1 ?side2 A16.out).mono ?_); (case side1 => repeat (first | exact (Kd.R_reads' HO_7.out).2.2 | (with_reducible refine Kd.C_alloc ?_ _) | (with_reducible refine Kd.C_drewN ?_ _) | (with_reducible refine Kd.C_drew ?_))); (case side2 => exact (Kd.R_reads' HO_7.out).2.1); rintro e w' ⟨rfl, ⟨nd, rfl⟩⟩; refine ⟨_, rfl, ?_⟩))
            go_ret
            exact ⟨by first | rfl | (simp [errW_none, errW_some] <;> rfl) | (simp [*, errW_none, errW_some] <;> rfl), by repeat (first | (with_reducible first | exact HB.out | apply below_alloc | apply pw_below_drewN | apply below_drew1) | exact HB.out)⟩
        · rw [if_neg c7] at H
          have c7b0 : decide (x8_1 < a2) = false := decide_eq_false c7
          clear c7
          replace H := Option.bind_eq_some_iff.mp H
          obtain ⟨t174, A180, H⟩ := H
          replace H : (some t174) = some r := H
          have A18 := Aside0.mk A180
          clear A180
          obtain rfl := Option.some.inj H
          obtain ⟨Ao19, co19, eo19⟩ := Kd.R_slice HO_7.out
          subst eo19
          go_wp2_with (first | ((with_reducible refine gate_callee (f := 41) rfl ?_); refine goesL_ (some 29) rfl rfl Try.func41 (by kernel_rfl) rfl #[.slice Ao19 x7_1.length co19] rfl (by (try simp only [List.map_toArray, List.map_cons, List.map_nil]); first | done | rfl | (simp only [List.length_drop, List.length_take]; rfl)) ?_; (with_reducible refine (whetstoneref01_Of.calls k1 _ _ x7_1 t174 _ ?side1 ?side2 A18.out).mono ?_); (case side1 => repeat (first | exact (Kd.R_reads' HO_7.out).2.2 | (with_reducible refine Kd.C_alloc ?_ _) | (with_reducible refine Kd.C_drewN ?_ _) | (with_reducible refine Kd.C_drew ?_))); (case side2 => exact (Kd.R_reads' HO_7.out).2.1); rintro e w' ⟨rfl, ⟨nd, rfl⟩⟩; refine ⟨_, rfl, ?_⟩))
          go_ret
          exact ⟨by first | rfl | (simp [errW_none, errW_some] <;> rfl) | (simp [*, errW_none, errW_some] <;> rfl), by repeat (first | (with_reducible first | exact HB.out | apply below_alloc | apply pw_below_drewN | apply below_drew1) | exact HB.out)⟩
  · rw [if_neg c4] at H
    exact absurd H (by simp)

end Go.Proofs.Ytegpiempnjbfjaa.Q
