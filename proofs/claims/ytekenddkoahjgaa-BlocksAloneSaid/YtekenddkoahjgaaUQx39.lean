import Derived.Test.YtekenddkoahjgaaUQx0
import Derived.Test.YtekenddkoahjgaaUQx1
import Derived.Test.YtekenddkoahjgaaUQx30
import Derived.Test.YtekenddkoahjgaaUQx35
namespace Go.Proofs.Ytekenddkoahjgaa.Q
open Go.RowKit Go.Proofs.YtekenddkoahjgaaW.PrintWords Go.Proofs.YtekenddkoahjgaaW.PrintLast Go.Proofs.YtekenddkoahjgaaW.PrintMore
attribute [local go_sem] max2_int min2_int max_two min_two max_three min_three max_four min_four   -- for this text's walks alone
attribute [local go_sem] imax_u32 imax_u8 isg_u32 isg_u8
set_option linter.unusedVariables false
set_option linter.unusedSimpArgs false
attribute [local go_sem high] eqA40
mutual
def whetstonelaw08_BlocksAlone.l0 : Nat → Int → Int → Int → Int → Int → List Int → Int → Option (Bool)
 | 0, _, _, _, _, _, _, _ => none
 | k + 1, x5, x6, x8, x421000, x421001, x421002, x421003 => if x8 < x5 then (if x421002.length < 35184372088832 then (whetstonelaw08_BlocksAlone.l0 k x5 x6 (wrap64 (x8 + 1)) x421000 x421001 (x421002 ++ [19]) x421003) else (none)) else (if x421002.length < 35184372088832 then ((some (x421002 ++ [1048691] : List Int)).bind fun y424 => ((blocks_Find.f x421000 x421001 y424 x421003 ([] : List Int)).bind fun bt427 => ((blocks_Find.f x421000 x421001 y424 x421003 (([(8192 + (wrap64 (4 * x6))) % 4294967296] : List Int))).bind fun bt434 => (if bt427.2 = 0 then (if bt434.2 = 0 then (if (bt427.1.length : Int) = 1 then (if 0 < (bt427.1.length : Int) then (whetstonelaw08_BlocksAlone.j1 k x5 x6 bt434.1 (!(((rd_T40 bt427.1 0).f0) == 8192) || (!(((rd_T40 bt427.1 0).f1) == (wrap64 (x5 + 1)))))) else (none)) else (whetstonelaw08_BlocksAlone.j1 k x5 x6 bt434.1 true)) else (whetstonelaw08_BlocksAlone.j1 k x5 x6 bt434.1 true)) else (whetstonelaw08_BlocksAlone.j1 k x5 x6 bt434.1 true))))) else (none))
def whetstonelaw08_BlocksAlone.j1 : Nat → Int → Int → List (S40) → Bool → Option (Bool)
 | 0, _, _, _, _ => none
 | k + 1, x5, x6, x11, x71 => if x71 = true then (some false) else (if x6 = 0 then (if (x11.length : Int) = 1 then ((whetstonelaw08_fixed.f).bind fun t439 => (some t439)) else (some false)) else (if (x11.length : Int) = 2 then (if 0 < (x11.length : Int) then (if (((rd_T40 x11 0).f0) == 8192 && (((rd_T40 x11 0).f1) == x6)) = true then (if 1 < (x11.length : Int) then (if (((rd_T40 x11 1).f0) == ((8192 + (wrap64 (4 * x6))) % 4294967296) && (((rd_T40 x11 1).f1) == (wrap64 ((wrap64 (x5 + 1)) - x6)))) = true then ((whetstonelaw08_fixed.f).bind fun t442 => (some t442)) else (some false)) else (none)) else (some false)) else (none)) else (some false)))
end
def whetstonelaw08_BlocksAlone.f (k : Nat) (a0 : Int) (a1 : Int) : Option (Bool) := if (wrap64 (1 + (Int.tmod (Go.bits .and .i64 a0 65535) 30))) = 0 then (none) else (whetstonelaw08_BlocksAlone.l0 k (wrap64 (1 + (Int.tmod (Go.bits .and .i64 a0 65535) 30))) (Int.tmod (Go.bits .and .i64 a1 65535) (wrap64 (1 + (Int.tmod (Go.bits .and .i64 a0 65535) 30)))) 0 8192 8192 ([] : List Int) 0)
set_option maxHeartbeats 8000000 in
set_option maxRecDepth 100000 in
theorem whetstonelaw08_BlocksAlone.calls (k : Nat) (a0 : Int) (a1 : Int) (r : Bool) (w : World) (h : whetstonelaw08_BlocksAlone.f k a0 a1 = some r) :
  Calls Try.prog 9 #[.int .i64 a0, .int .i64 a1] w fun e w' => e = .returned (.bool r) ∧ Below w.heap.size w w' := by
 have hu32 := Try.underlying32
 have hu40 := Try.underlying40
 have HB := Aside0.mk (Below.refl w.heap.size w)
 have H : (if (wrap64 (1 + (Int.tmod (Go.bits .and .i64 a0 65535) 30))) = 0 then (none) else (whetstonelaw08_BlocksAlone.l0 k (wrap64 (1 + (Int.tmod (Go.bits .and .i64 a0 65535) 30))) (Int.tmod (Go.bits .and .i64 a1 65535) (wrap64 (1 + (Int.tmod (Go.bits .and .i64 a0 65535) 30)))) 0 8192 8192 ([] : List Int) 0)) = some r := h
 clear h
 by_cases c3 : (wrap64 (1 + (Int.tmod (Go.bits .and .i64 a0 65535) 30))) = 0
 ·rw [if_pos c3] at H
  exact absurd H (by simp)
 ·rw [if_neg c3] at H
  have c3b0 : ((wrap64 (1 + (Int.tmod (Go.bits .and .i64 a0 65535) 30))) == 0) = false := beq_eq_false_iff_ne.mpr c3
  have c3b1 : ((wrap64 (1 + (Int.tmod (Go.bits .and .i64 a0 65535) 30))) != 0) = true := bne_iff_ne.mpr c3
  have H' := Aside0.mk H
  clear H
  go_enter Try.func9, Try.ntmps9
  go_wp2_with (first | ((with_reducible refine gate_dst (N := 7) rfl ?_); (try (refine gate_guard (by rfl) ?_; dsimp only)); refine box_event ?hg (N := 7) ?hd (cs := #[.int .u32 0, .int .u32 0, .slice none 0 0, .int .i64 0]) (t := 32) ?hr ?_; (case hd => rfl); (case hg => rfl); (case hr => first | (go_simp; done) | (go_simp; rfl)); intro gb420 hg w4 hbox hb; have n0_ := Aside0.mk (below_step (by repeat (first | (with_reducible first | exact HB.out | apply below_alloc | apply pw_below_drewN | apply below_drew1) | exact HB.out)) hb); have n1_ := Aside0.mk (hbox); have n2_ := Aside0.mk ((by rw [hg]; exact (below_size (by repeat (first | (with_reducible first | exact HB.out | apply below_alloc | apply pw_below_drewN | apply below_drew1) | exact HB.out))) : w.heap.size ≤ gb420)); have n3_ := Aside0.mk ((by rw [hg]; exact (below_size (by repeat (first | (with_reducible first | exact HB.out | apply below_alloc | apply pw_below_drewN | apply below_drew1) | exact HB.out))) : w.heap.size ≤ gb420)); clear HB; have HB := n0_; have BK420 := n1_; have GW420 := n2_; have GE420 := n3_; clear n0_ n1_ n2_ n3_; clear hb hbox hg; have hcz5_0 : w4.cell? ⟨gb420, 0, none⟩ = some (.int .u32 0) := (blk_cell BK420.out 0).trans rfl; have hcz5_1 : w4.cell? ⟨gb420, 1, none⟩ = some (.int .u32 0) := (blk_cell BK420.out 1).trans rfl; have hcz5_2 : w4.cell? ⟨gb420, 2, none⟩ = some (.slice none 0 0) := (blk_cell BK420.out 2).trans rfl; have hcz5_3 : w4.cell? ⟨gb420, 3, none⟩ = some (.int .i64 0) := (blk_cell BK420.out 3).trans rfl; have hfz5_0 := blk_frozen BK420.out 0; have hfz5_1 := blk_frozen BK420.out 1; have hfz5_2 := blk_frozen BK420.out 2; have hfz5_3 := blk_frozen BK420.out 3))
  go_loopg [8] k (fun kq v8 w' => ∃ (x8_1 : Int) (x421002_1 : List Int) (u421002 : Value), v8 = .int .i64 x8_1 ∧ Aside0 (whetstonelaw08_BlocksAlone.l0 kq (wrap64 (1 + (Int.tmod (Go.bits .and .i64 a0 65535) 30))) (Int.tmod (Go.bits .and .i64 a1 65535) (wrap64 (1 + (Int.tmod (Go.bits .and .i64 a0 65535) 30)))) x8_1 8192 8192 x421002_1 0 = some r) ∧ Aside0 (kq ≤ k) ∧ Aside0 (Kd.R (Kd.int .u32) 24 w' w.heap.size (fun _ => True) u421002 x421002_1) ∧ Aside0 (w'.heap[gb420]? = some (.cells #[.int .u32 8192, .int .u32 8192, u421002, .int .i64 0] 32 (0, 0))) ∧ Aside0 (Below w.heap.size w w'))
  case atStart => exact ⟨(0), (([] : List Int)), (.slice none 0 0), (by first | rfl | (simp; done) | (simp [*]; done)), H', ⟨Nat.le_refl _⟩, ⟨by first | exact Kd.R_nil _ _ _ _ _ | exact Kd.N_nil _ _ _ _ _ | exact Kd.V_nil _ _ _ _ _ | exact Kd.Q_nil _ _ _ _ _ | exact Kd.S_nil _ _ _ _ _⟩, ⟨by (with_reducible repeat (first | refine blk_drewN ?_ _ | refine blk_drew ?_ | refine blk_alloc ?_ _)); refine blk_put (cs := #[.int .u32 8192, .int .u32 8192, .slice none 0 0, .int .i64 0]) ?_ 3 _ rfl; (with_reducible repeat (first | refine blk_drewN ?_ _ | refine blk_drew ?_ | refine blk_alloc ?_ _)); refine blk_put (cs := #[.int .u32 8192, .int .u32 8192, .slice none 0 0, .int .i64 0]) ?_ 2 _ rfl; (with_reducible repeat (first | refine blk_drewN ?_ _ | refine blk_drew ?_ | refine blk_alloc ?_ _)); refine blk_put (cs := #[.int .u32 8192, .int .u32 0, .slice none 0 0, .int .i64 0]) ?_ 1 _ rfl; (with_reducible repeat (first | refine blk_drewN ?_ _ | refine blk_drew ?_ | refine blk_alloc ?_ _)); refine blk_put (cs := #[.int .u32 0, .int .u32 0, .slice none 0 0, .int .i64 0]) ?_ 0 _ rfl; (with_reducible repeat (first | refine blk_drewN ?_ _ | refine blk_drew ?_ | refine blk_alloc ?_ _)); exact BK420.out⟩, ⟨by repeat (first | (with_reducible first | exact HB.out | apply below_alloc | apply pw_below_drewN | apply below_drew1 | refine below_set ?_ GE420.out) | exact HB.out)⟩⟩
  case round =>
   clear H'
   try clear p2
   try clear c3
   try clear c3b0
   try clear c3b1
   try clear hcz5_0
   try clear hcz5_1
   try clear hcz5_2
   try clear hcz5_3
   try clear hfz5_0
   try clear hfz5_1
   try clear hfz5_2
   try clear hfz5_3
   obtain ⟨x8_1, x421002_1, u421002, rfl, HA, HK1, HO_421002, BK420, HB⟩ := hrel
   cases gk with
   | zero => exact absurd HA.out (by simp [whetstonelaw08_BlocksAlone.l0])
   | succ k1 =>
    have H := HA.out
    clear HA
    simp only [whetstonelaw08_BlocksAlone.l0] at H
    by_cases c6 : x8_1 < (wrap64 (1 + (Int.tmod (Go.bits .and .i64 a0 65535) 30)))
    ·rw [if_pos c6] at H
     have c6b0 : decide (x8_1 < (wrap64 (1 + (Int.tmod (Go.bits .and .i64 a0 65535) 30)))) = true := decide_eq_true c6
     clear c6
     by_cases c7 : x421002_1.length < 35184372088832
     ·rw [if_pos c7] at H
      have LMc7 := Aside0.mk c7
      clear c7
      obtain ⟨y421, hy421⟩ : ∃ y_ : List Int, y_ = (x421002_1 ++ [19]) := ⟨_, rfl⟩
      replace H : (whetstonelaw08_BlocksAlone.l0 k1 (wrap64 (1 + (Int.tmod (Go.bits .and .i64 a0 65535) 30))) (Int.tmod (Go.bits .and .i64 a1 65535) (wrap64 (1 + (Int.tmod (Go.bits .and .i64 a0 65535) 30)))) (wrap64 (x8_1 + 1)) 8192 8192 y421 0) = some r := by first | (rw [hy421]; with_reducible exact H) | (have H2_ := (Option.bind_some _ _).symm.trans H; rw [hy421]; with_reducible exact H2_) | (have H2_ := (Option.bind_some _ _).symm.trans H; with_reducible exact H2_) | with_reducible exact H | (rw [hy421]; exact H) | exact H
      have Ny421 := Aside0.mk hy421
      clear hy421
      have H' := Aside0.mk H
      clear H
      have hcz8_0 : wr.cell? ⟨gb420, 0, none⟩ = some (.int .u32 8192) := (blk_cell BK420.out 0).trans rfl
      have hcz8_1 : wr.cell? ⟨gb420, 1, none⟩ = some (.int .u32 8192) := (blk_cell BK420.out 1).trans rfl
      have hcz8_2 : wr.cell? ⟨gb420, 2, none⟩ = some (u421002) := (blk_cell BK420.out 2).trans rfl
      have hcz8_3 : wr.cell? ⟨gb420, 3, none⟩ = some (.int .i64 0) := (blk_cell BK420.out 3).trans rfl
      have hfz8_0 := blk_frozen BK420.out 0
      have hfz8_1 := blk_frozen BK420.out 1
      have hfz8_2 := blk_frozen BK420.out 2
      have hfz8_3 := blk_frozen BK420.out 3
      go_wp2_with (first | ((with_reducible refine gate_builtin (b := .append) (xs := #[.tmp 28, .tmp 29]) rfl ?_); (try (refine gate_guard (by rfl) ?_; dsimp only)); at_builtin; refine Kd.R_append (Kd.int .u32) (w0 := w) w.heap.size rfl (.tmp 28) (.tmp 29) 27 24 (.int .u32 0) 4 rfl Try.underlying27 info24 rfl (by decide) (by omega) u421002 x421002_1 19 [.int .u32 19] (fun _ => True) (fun _ => False) rfl rfl ?aP (fun _ hk => hk.elim) ?aF ?aO ?aB ?aS ?aL ?_; (case aP => exact rfl); (case aB => exact (by repeat (first | (with_reducible first | exact HB.out | apply below_alloc | apply pw_below_drewN | apply below_drew1 | refine below_set ?_ GE420.out) | exact HB.out))); (case aF => exact (fun _ _ => trivial)); (case aO => exact (by (with_reducible repeat (first | apply Kd.R_alloc | apply Kd.R_drewN | apply Kd.R_drew)); exact HO_421002.out)); (case aS => exact (below_size (by repeat (first | (with_reducible first | exact HB.out | apply below_alloc | apply pw_below_drewN | apply below_drew1 | refine below_set ?_ GE420.out) | exact HB.out)))); (case aL => have := LMc7.out; omega); intro v422 w9 ho hb hg hat; rw [← Ny421.out] at ho; have n0_ := Aside0.mk (blk_grown (g := gb420) (o := .cells #[.int .u32 8192, .int .u32 8192, u421002, .int .i64 0] 32 (0, 0)) (by (with_reducible repeat (first | refine blk_drewN ?_ _ | refine blk_drew ?_ | refine blk_alloc ?_ _)); exact BK420.out) hg (Kd.R_ne HO_421002.out BK420.out (by decide))); have n1_ := Aside0.mk (hb); have n2_ := Aside0.mk (ho); clear BK420; clear HB; clear HO_421002; have BK420 := n0_; have HB := n1_; have HO423 := n2_; clear n0_ n1_ n2_; clear ho hb hg hat; obtain ⟨Ao10, co10, eo10⟩ := Kd.R_slice HO423.out; subst eo10; have hcz11_0 : w9.cell? ⟨gb420, 0, none⟩ = some (.int .u32 8192) := (blk_cell BK420.out 0).trans rfl; have hcz11_1 : w9.cell? ⟨gb420, 1, none⟩ = some (.int .u32 8192) := (blk_cell BK420.out 1).trans rfl; have hcz11_2 : w9.cell? ⟨gb420, 2, none⟩ = some (u421002) := (blk_cell BK420.out 2).trans rfl; have hcz11_3 : w9.cell? ⟨gb420, 3, none⟩ = some (.int .i64 0) := (blk_cell BK420.out 3).trans rfl; have hfz11_0 := blk_frozen BK420.out 0; have hfz11_1 := blk_frozen BK420.out 1; have hfz11_2 := blk_frozen BK420.out 2; have hfz11_3 := blk_frozen BK420.out 3))
      go_roundg k1
      case measure => have := HK1.out; omega
      case rel => exact ⟨(wrap64 (x8_1 + 1)), (y421), (.slice Ao10 y421.length co10), (by first | rfl | (simp; done) | (simp [*]; done)), H', ⟨by have := HK1.out; omega⟩, ⟨by (with_reducible repeat (first | apply Kd.R_alloc | apply Kd.R_drewN | apply Kd.R_drew)); exact Kd.R_mono (Kd.R_far (p := ⟨gb420, 2, none⟩) (Kd.R_types HO423.out BK420.out (by decide)) (fun _ hk => hk.2) (.slice Ao10 y421.length co10)) (fun _ hk => trivial)⟩, ⟨by (with_reducible repeat (first | refine blk_drewN ?_ _ | refine blk_drew ?_ | refine blk_alloc ?_ _)); refine blk_put (cs := #[.int .u32 8192, .int .u32 8192, u421002, .int .i64 0]) ?_ 2 _ rfl; (with_reducible repeat (first | refine blk_drewN ?_ _ | refine blk_drew ?_ | refine blk_alloc ?_ _)); exact BK420.out⟩, ⟨by repeat (first | (with_reducible first | exact HB.out | apply below_alloc | apply pw_below_drewN | apply below_drew1 | refine below_set ?_ GE420.out) | exact HB.out)⟩⟩
     ·rw [if_neg c7] at H
      exact absurd H (by simp)
    ·rw [if_neg c6] at H
     have c6b0 : decide (x8_1 < (wrap64 (1 + (Int.tmod (Go.bits .and .i64 a0 65535) 30)))) = false := decide_eq_false c6
     clear c6
     by_cases c12 : x421002_1.length < 35184372088832
     ·rw [if_pos c12] at H
      have LMc12 := Aside0.mk c12
      clear c12
      obtain ⟨y424, hy424⟩ : ∃ y_ : List Int, y_ = (x421002_1 ++ [1048691]) := ⟨_, rfl⟩
      replace H : ((blocks_Find.f 8192 8192 y424 0 ([] : List Int)).bind fun bt427 => ((blocks_Find.f 8192 8192 y424 0 (([(8192 + (wrap64 (4 * (Int.tmod (Go.bits .and .i64 a1 65535) (wrap64 (1 + (Int.tmod (Go.bits .and .i64 a0 65535) 30))))))) % 4294967296] : List Int))).bind fun bt434 => (if bt427.2 = 0 then (if bt434.2 = 0 then (if (bt427.1.length : Int) = 1 then (if 0 < (bt427.1.length : Int) then (whetstonelaw08_BlocksAlone.j1 k1 (wrap64 (1 + (Int.tmod (Go.bits .and .i64 a0 65535) 30))) (Int.tmod (Go.bits .and .i64 a1 65535) (wrap64 (1 + (Int.tmod (Go.bits .and .i64 a0 65535) 30)))) bt434.1 (!(((rd_T40 bt427.1 0).f0) == 8192) || (!(((rd_T40 bt427.1 0).f1) == (wrap64 ((wrap64 (1 + (Int.tmod (Go.bits .and .i64 a0 65535) 30))) + 1)))))) else (none)) else (whetstonelaw08_BlocksAlone.j1 k1 (wrap64 (1 + (Int.tmod (Go.bits .and .i64 a0 65535) 30))) (Int.tmod (Go.bits .and .i64 a1 65535) (wrap64 (1 + (Int.tmod (Go.bits .and .i64 a0 65535) 30)))) bt434.1 true)) else (whetstonelaw08_BlocksAlone.j1 k1 (wrap64 (1 + (Int.tmod (Go.bits .and .i64 a0 65535) 30))) (Int.tmod (Go.bits .and .i64 a1 65535) (wrap64 (1 + (Int.tmod (Go.bits .and .i64 a0 65535) 30)))) bt434.1 true)) else (whetstonelaw08_BlocksAlone.j1 k1 (wrap64 (1 + (Int.tmod (Go.bits .and .i64 a0 65535) 30))) (Int.tmod (Go.bits .and .i64 a1 65535) (wrap64 (1 + (Int.tmod (Go.bits .and .i64 a0 65535) 30)))) bt434.1 true)))) = some r := by first | (rw [hy424]; with_reducible exact H) | (have H2_ := (Option.bind_some _ _).symm.trans H; rw [hy424]; with_reducible exact H2_) | (have H2_ := (Option.bind_some _ _).symm.trans H; with_reducible exact H2_) | with_reducible exact H | (rw [hy424]; exact H) | exact H
      have Ny424 := Aside0.mk hy424
      clear hy424
      replace H := Option.bind_eq_some_iff.mp H
      obtain ⟨⟨t427, t430⟩, A130, H⟩ := H
      replace H : ((blocks_Find.f 8192 8192 y424 0 (([(8192 + (wrap64 (4 * (Int.tmod (Go.bits .and .i64 a1 65535) (wrap64 (1 + (Int.tmod (Go.bits .and .i64 a0 65535) 30))))))) % 4294967296] : List Int))).bind fun bt434 => (if t430 = 0 then (if bt434.2 = 0 then (if (t427.length : Int) = 1 then (if 0 < (t427.length : Int) then (whetstonelaw08_BlocksAlone.j1 k1 (wrap64 (1 + (Int.tmod (Go.bits .and .i64 a0 65535) 30))) (Int.tmod (Go.bits .and .i64 a1 65535) (wrap64 (1 + (Int.tmod (Go.bits .and .i64 a0 65535) 30)))) bt434.1 (!(((rd_T40 t427 0).f0) == 8192) || (!(((rd_T40 t427 0).f1) == (wrap64 ((wrap64 (1 + (Int.tmod (Go.bits .and .i64 a0 65535) 30))) + 1)))))) else (none)) else (whetstonelaw08_BlocksAlone.j1 k1 (wrap64 (1 + (Int.tmod (Go.bits .and .i64 a0 65535) 30))) (Int.tmod (Go.bits .and .i64 a1 65535) (wrap64 (1 + (Int.tmod (Go.bits .and .i64 a0 65535) 30)))) bt434.1 true)) else (whetstonelaw08_BlocksAlone.j1 k1 (wrap64 (1 + (Int.tmod (Go.bits .and .i64 a0 65535) 30))) (Int.tmod (Go.bits .and .i64 a1 65535) (wrap64 (1 + (Int.tmod (Go.bits .and .i64 a0 65535) 30)))) bt434.1 true)) else (whetstonelaw08_BlocksAlone.j1 k1 (wrap64 (1 + (Int.tmod (Go.bits .and .i64 a0 65535) 30))) (Int.tmod (Go.bits .and .i64 a1 65535) (wrap64 (1 + (Int.tmod (Go.bits .and .i64 a0 65535) 30)))) bt434.1 true))) = some r := H
      have A13 := Aside0.mk A130
      clear A130
      obtain ⟨y431, hy431⟩ : ∃ y_ : List Int, y_ = (([(8192 + (wrap64 (4 * (Int.tmod (Go.bits .and .i64 a1 65535) (wrap64 (1 + (Int.tmod (Go.bits .and .i64 a0 65535) 30))))))) % 4294967296] : List Int)) := ⟨_, rfl⟩
      replace H : ((blocks_Find.f 8192 8192 y424 0 y431).bind fun bt434 => (if t430 = 0 then (if bt434.2 = 0 then (if (t427.length : Int) = 1 then (if 0 < (t427.length : Int) then (whetstonelaw08_BlocksAlone.j1 k1 (wrap64 (1 + (Int.tmod (Go.bits .and .i64 a0 65535) 30))) (Int.tmod (Go.bits .and .i64 a1 65535) (wrap64 (1 + (Int.tmod (Go.bits .and .i64 a0 65535) 30)))) bt434.1 (!(((rd_T40 t427 0).f0) == 8192) || (!(((rd_T40 t427 0).f1) == (wrap64 ((wrap64 (1 + (Int.tmod (Go.bits .and .i64 a0 65535) 30))) + 1)))))) else (none)) else (whetstonelaw08_BlocksAlone.j1 k1 (wrap64 (1 + (Int.tmod (Go.bits .and .i64 a0 65535) 30))) (Int.tmod (Go.bits .and .i64 a1 65535) (wrap64 (1 + (Int.tmod (Go.bits .and .i64 a0 65535) 30)))) bt434.1 true)) else (whetstonelaw08_BlocksAlone.j1 k1 (wrap64 (1 + (Int.tmod (Go.bits .and .i64 a0 65535) 30))) (Int.tmod (Go.bits .and .i64 a1 65535) (wrap64 (1 + (Int.tmod (Go.bits .and .i64 a0 65535) 30)))) bt434.1 true)) else (whetstonelaw08_BlocksAlone.j1 k1 (wrap64 (1 + (Int.tmod (Go.bits .and .i64 a0 65535) 30))) (Int.tmod (Go.bits .and .i64 a1 65535) (wrap64 (1 + (Int.tmod (Go.bits .and .i64 a0 65535) 30)))) bt434.1 true))) = some r := by first | (rw [hy431]; with_reducible exact H) | (have H2_ := (Option.bind_some _ _).symm.trans H; rw [hy431]; with_reducible exact H2_) | (have H2_ := (Option.bind_some _ _).symm.trans H; with_reducible exact H2_) | with_reducible exact H | (rw [hy431]; exact H) | exact H
      have Ny431 := Aside0.mk hy431
      clear hy431
      replace H := Option.bind_eq_some_iff.mp H
      obtain ⟨⟨t434, t437⟩, A140, H⟩ := H
      replace H : (if t430 = 0 then (if t437 = 0 then (if (t427.length : Int) = 1 then (if 0 < (t427.length : Int) then (whetstonelaw08_BlocksAlone.j1 k1 (wrap64 (1 + (Int.tmod (Go.bits .and .i64 a0 65535) 30))) (Int.tmod (Go.bits .and .i64 a1 65535) (wrap64 (1 + (Int.tmod (Go.bits .and .i64 a0 65535) 30)))) t434 (!(((rd_T40 t427 0).f0) == 8192) || (!(((rd_T40 t427 0).f1) == (wrap64 ((wrap64 (1 + (Int.tmod (Go.bits .and .i64 a0 65535) 30))) + 1)))))) else (none)) else (whetstonelaw08_BlocksAlone.j1 k1 (wrap64 (1 + (Int.tmod (Go.bits .and .i64 a0 65535) 30))) (Int.tmod (Go.bits .and .i64 a1 65535) (wrap64 (1 + (Int.tmod (Go.bits .and .i64 a0 65535) 30)))) t434 true)) else (whetstonelaw08_BlocksAlone.j1 k1 (wrap64 (1 + (Int.tmod (Go.bits .and .i64 a0 65535) 30))) (Int.tmod (Go.bits .and .i64 a1 65535) (wrap64 (1 + (Int.tmod (Go.bits .and .i64 a0 65535) 30)))) t434 true)) else (whetstonelaw08_BlocksAlone.j1 k1 (wrap64 (1 + (Int.tmod (Go.bits .and .i64 a0 65535) 30))) (Int.tmod (Go.bits .and .i64 a1 65535) (wrap64 (1 + (Int.tmod (Go.bits .and .i64 a0 65535) 30)))) t434 true)) = some r := H
      have A14 := Aside0.mk A140
      clear A140
      have HC15 := Aside0.mk H
      clear H
      have hcz16_0 : wr.cell? ⟨gb420, 0, none⟩ = some (.int .u32 8192) := (blk_cell BK420.out 0).trans rfl
      have hcz16_1 : wr.cell? ⟨gb420, 1, none⟩ = some (.int .u32 8192) := (blk_cell BK420.out 1).trans rfl
      have hcz16_2 : wr.cell? ⟨gb420, 2, none⟩ = some (u421002) := (blk_cell BK420.out 2).trans rfl
      have hcz16_3 : wr.cell? ⟨gb420, 3, none⟩ = some (.int .i64 0) := (blk_cell BK420.out 3).trans rfl
      have hfz16_0 := blk_frozen BK420.out 0
      have hfz16_1 := blk_frozen BK420.out 1
      have hfz16_2 := blk_frozen BK420.out 2
      have hfz16_3 := blk_frozen BK420.out 3
      go_upto_region 11 with (first | ((with_reducible refine gate_builtin (b := .append) (xs := #[.tmp 33, .tmp 34]) rfl ?_); (try (refine gate_guard (by rfl) ?_; dsimp only)); at_builtin; refine Kd.R_append (Kd.int .u32) (w0 := w) w.heap.size rfl (.tmp 33) (.tmp 34) 27 24 (.int .u32 0) 4 rfl Try.underlying27 info24 rfl (by decide) (by omega) u421002 x421002_1 1048691 [.int .u32 1048691] (fun _ => True) (fun _ => False) rfl rfl ?aP (fun _ hk => hk.elim) ?aF ?aO ?aB ?aS ?aL ?_; (case aP => exact rfl); (case aB => exact (by repeat (first | (with_reducible first | exact HB.out | apply below_alloc | apply pw_below_drewN | apply below_drew1 | refine below_set ?_ GE420.out) | exact HB.out))); (case aF => exact (fun _ _ => trivial)); (case aO => exact (by (with_reducible repeat (first | apply Kd.R_alloc | apply Kd.R_drewN | apply Kd.R_drew)); exact HO_421002.out)); (case aS => exact (below_size (by repeat (first | (with_reducible first | exact HB.out | apply below_alloc | apply pw_below_drewN | apply below_drew1 | refine below_set ?_ GE420.out) | exact HB.out)))); (case aL => have := LMc12.out; omega); intro v425 w17 ho hb hg hat; rw [← Ny424.out] at ho; have n0_ := Aside0.mk (blk_grown (g := gb420) (o := .cells #[.int .u32 8192, .int .u32 8192, u421002, .int .i64 0] 32 (0, 0)) (by (with_reducible repeat (first | refine blk_drewN ?_ _ | refine blk_drew ?_ | refine blk_alloc ?_ _)); exact BK420.out) hg (Kd.R_ne HO_421002.out BK420.out (by decide))); have n1_ := Aside0.mk (hb); have n2_ := Aside0.mk (ho); clear BK420; clear HB; clear HO_421002; have BK420 := n0_; have HB := n1_; have HO426 := n2_; clear n0_ n1_ n2_; clear ho hb hg hat; obtain ⟨Ao18, co18, eo18⟩ := Kd.R_slice HO426.out; subst eo18; have hcz19_0 : w17.cell? ⟨gb420, 0, none⟩ = some (.int .u32 8192) := (blk_cell BK420.out 0).trans rfl; have hcz19_1 : w17.cell? ⟨gb420, 1, none⟩ = some (.int .u32 8192) := (blk_cell BK420.out 1).trans rfl; have hcz19_2 : w17.cell? ⟨gb420, 2, none⟩ = some (u421002) := (blk_cell BK420.out 2).trans rfl; have hcz19_3 : w17.cell? ⟨gb420, 3, none⟩ = some (.int .i64 0) := (blk_cell BK420.out 3).trans rfl; have hfz19_0 := blk_frozen BK420.out 0; have hfz19_1 := blk_frozen BK420.out 1; have hfz19_2 := blk_frozen BK420.out 2; have hfz19_3 := blk_frozen BK420.out 3) | ((with_reducible refine gate_callee (f := 19) rfl ?_); refine goesL_ (some 39) rfl rfl Try.func19 (by kernel_rfl) rfl #[.agg #[.int .u32 8192, .int .u32 8192, .slice Ao18 y424.length co18, .int .i64 0], .slice none 0 0] rfl (by (try simp only [List.map_toArray, List.map_cons, List.map_nil]); first | done | rfl | (simp only [List.length_drop, List.length_take]; rfl)) ?_; (refine (blocks_Find.calls 8192 8192 _ _ y424 0 _ _ ([] : List Int) t427 t430 _ ?side1 ?side2 ?side3 ?side4 A13.out).mono ?_); (case side1 => refine (Kd.R_reads' (e := 24) (base := w.heap.size) (ok := fun k_ => True) (n := y424.length) (c := co18) ?_).2.2; exact (by (with_reducible repeat (first | apply Kd.R_alloc | apply Kd.R_drewN | apply Kd.R_drew)); exact (Kd.R_mono (Kd.R_far (p := ⟨gb420, 2, none⟩) (Kd.R_types HO426.out BK420.out (by decide)) (fun _ hk => hk.2) (.slice Ao18 y424.length co18)) (fun _ h_ => h_.1)))); (case side2 => exact (Kd.R_reads' HO426.out).2.1); (case side3 => exact Kd.C_nil _ _); (case side4 => exact Nat.le_refl _); rintro e w20 ⟨v428, rfl, ho0, hb⟩; refine ⟨_, rfl, ?_⟩; have n0_ := Aside0.mk (Kd.R_below (by (with_reducible repeat (first | apply Kd.R_alloc | apply Kd.R_drewN | apply Kd.R_drew)); exact (Kd.R_mono (Kd.R_far (p := ⟨gb420, 2, none⟩) (Kd.R_types HO426.out BK420.out (by decide)) (fun _ hk => hk.2) (.slice Ao18 y424.length co18)) (fun _ h_ => h_.1))) hb); have n1_ := Aside0.mk (Kd.R_lower ho0 (below_size (by repeat (first | (with_reducible first | exact HB.out | apply below_alloc | apply pw_below_drewN | apply below_drew1 | refine below_set ?_ GE420.out) | exact HB.out)))); have n2_ := Aside0.mk (blk_below (g := gb420) (o := .cells #[.int .u32 8192, .int .u32 8192, .slice Ao18 y424.length co18, .int .i64 0] 32 (0, 0)) (by (with_reducible repeat (first | refine blk_drewN ?_ _ | refine blk_drew ?_ | refine blk_alloc ?_ _)); refine blk_put (cs := #[.int .u32 8192, .int .u32 8192, u421002, .int .i64 0]) ?_ 2 _ rfl; (with_reducible repeat (first | refine blk_drewN ?_ _ | refine blk_drew ?_ | refine blk_alloc ?_ _)); exact BK420.out) hb); have n3_ := Aside0.mk (below_step (by repeat (first | (with_reducible first | exact HB.out | apply below_alloc | apply pw_below_drewN | apply below_drew1 | refine below_set ?_ GE420.out) | exact HB.out)) hb); clear HO426; clear BK420; clear HB; have HO426 := n0_; have HO429 := n1_; have BK420 := n2_; have HB := n3_; clear n0_ n1_ n2_ n3_; (try clear hb); (try clear hb2); (try clear hk); (try clear hi); (try clear ho0); have hcz21_0 : w20.cell? ⟨gb420, 0, none⟩ = some (.int .u32 8192) := (blk_cell BK420.out 0).trans rfl; have hcz21_1 : w20.cell? ⟨gb420, 1, none⟩ = some (.int .u32 8192) := (blk_cell BK420.out 1).trans rfl; have hcz21_2 : w20.cell? ⟨gb420, 2, none⟩ = some (.slice Ao18 y424.length co18) := (blk_cell BK420.out 2).trans rfl; have hcz21_3 : w20.cell? ⟨gb420, 3, none⟩ = some (.int .i64 0) := (blk_cell BK420.out 3).trans rfl; have hfz21_0 := blk_frozen BK420.out 0; have hfz21_1 := blk_frozen BK420.out 1; have hfz21_2 := blk_frozen BK420.out 2; have hfz21_3 := blk_frozen BK420.out 3) | ((with_reducible refine gate_dst (N := 48) rfl ?_); (try (refine gate_guard (by rfl) ?_; dsimp only)); refine Kd.R_lit (Kd.int .u32) _ 24 ?hg (N := 48) ?hd (xs := ([(8192 + (wrap64 (4 * (Int.tmod (Go.bits .and .i64 a1 65535) (wrap64 (1 + (Int.tmod (Go.bits .and .i64 a0 65535) 30))))))) % 4294967296] : List Int)) (inner := [.int .u32 ((8192 + (wrap64 (4 * (Int.tmod (Go.bits .and .i64 a1 65535) (wrap64 (1 + (Int.tmod (Go.bits .and .i64 a0 65535) 30))))))) % 4294967296)]) (ok := fun _ => True) (okp := fun _ => True) ?hr ?hp (fun _ hk => hk) trivial (Below.refl _ _) (Nat.le_refl _) (by simp) ?_; (case hd => rfl); (case hg => rfl); (case hr => first | (go_simp; done) | (go_simp; rfl)); (case hp => exact (Reps.one (show Kd.M (Kd.int .u32) _ _ _ ((8192 + (wrap64 (4 * (Int.tmod (Go.bits .and .i64 a1 65535) (wrap64 (1 + (Int.tmod (Go.bits .and .i64 a0 65535) 30))))))) % 4294967296) [.int .u32 ((8192 + (wrap64 (4 * (Int.tmod (Go.bits .and .i64 a1 65535) (wrap64 (1 + (Int.tmod (Go.bits .and .i64 a0 65535) 30))))))) % 4294967296)] from rfl) (Reps.none _ _))); intro v432 w22 ho23 hb hg_ hnew_; clear hg_ hnew_; (first | rw [← Ny431.out] at ho23 | (simp only [Int.reduceToNat] at ho23; rw [← Ny431.out] at ho23)); have n0_ := Aside0.mk (Kd.R_elder' (by (with_reducible repeat (first | apply Kd.R_alloc | apply Kd.R_drewN | apply Kd.R_drew)); exact HO426.out) (Kd.R_base ho23) hb); have n1_ := Aside0.mk (Kd.R_below (by (with_reducible repeat (first | apply Kd.R_alloc | apply Kd.R_drewN | apply Kd.R_drew)); exact HO429.out) hb); have n2_ := Aside0.mk (Kd.R_lower (Kd.R_new' ho23 (Kd.R_lt (by (with_reducible repeat (first | apply Kd.R_alloc | apply Kd.R_drewN | apply Kd.R_drew)); exact HO426.out))) (below_size (by repeat (first | (with_reducible first | exact HB.out | apply below_alloc | apply pw_below_drewN | apply below_drew1 | refine below_set ?_ GE420.out) | exact HB.out)))); have n3_ := Aside0.mk (blk_below (g := gb420) (o := .cells #[.int .u32 8192, .int .u32 8192, .slice Ao18 y424.length co18, .int .i64 0] 32 (0, 0)) (by (with_reducible repeat (first | refine blk_drewN ?_ _ | refine blk_drew ?_ | refine blk_alloc ?_ _)); exact BK420.out) hb); have n4_ := Aside0.mk (below_step (by repeat (first | (with_reducible first | exact HB.out | apply below_alloc | apply pw_below_drewN | apply below_drew1 | refine below_set ?_ GE420.out) | exact HB.out)) hb); clear HO426; clear HO429; clear BK420; clear HB; have HO426 := n0_; have HO429 := n1_; have HO433 := n2_; have BK420 := n3_; have HB := n4_; clear n0_ n1_ n2_ n3_ n4_; clear hb ho23; obtain ⟨Ao24, co24, eo24⟩ := Kd.R_slice HO433.out; subst eo24) | ((with_reducible refine gate_callee (f := 19) rfl ?_); refine goesL_ (some 49) rfl rfl Try.func19 (by kernel_rfl) rfl #[.agg #[.int .u32 8192, .int .u32 8192, .slice Ao18 y424.length co18, .int .i64 0], .slice Ao24 y431.length co24] rfl (by (try simp only [List.map_toArray, List.map_cons, List.map_nil]); first | done | rfl | (simp only [List.length_drop, List.length_take]; rfl)) ?_; (with_reducible refine (blocks_Find.calls 8192 8192 _ _ y424 0 _ _ y431 t434 t437 _ ?side1 ?side2 ?side3 ?side4 A14.out).mono ?_); (case side1 => repeat (first | exact (Kd.R_reads' HO426.out).2.2 | (with_reducible refine Kd.C_alloc ?_ _) | (with_reducible refine Kd.C_drewN ?_ _) | (with_reducible refine Kd.C_drew ?_))); (case side2 => exact (Kd.R_reads' HO426.out).2.1); (case side3 => repeat (first | exact (Kd.R_reads' HO433.out).2.2 | (with_reducible refine Kd.C_alloc ?_ _) | (with_reducible refine Kd.C_drewN ?_ _) | (with_reducible refine Kd.C_drew ?_))); (case side4 => exact (Kd.R_reads' HO433.out).2.1); rintro e w25 ⟨v435, rfl, ho0, hb⟩; refine ⟨_, rfl, ?_⟩; have n0_ := Aside0.mk (Kd.R_below (by (with_reducible repeat (first | apply Kd.R_alloc | apply Kd.R_drewN | apply Kd.R_drew)); exact HO426.out) hb); have n1_ := Aside0.mk (Kd.R_elder' (by (with_reducible repeat (first | apply Kd.R_alloc | apply Kd.R_drewN | apply Kd.R_drew)); exact HO429.out) (Kd.R_base ho0) hb); have n2_ := Aside0.mk (Kd.R_below (by (with_reducible repeat (first | apply Kd.R_alloc | apply Kd.R_drewN | apply Kd.R_drew)); exact HO433.out) hb); have n3_ := Aside0.mk (Kd.R_lower (Kd.R_new' ho0 (Kd.R_lt (by (with_reducible repeat (first | apply Kd.R_alloc | apply Kd.R_drewN | apply Kd.R_drew)); exact HO429.out))) (below_size (by repeat (first | (with_reducible first | exact HB.out | apply below_alloc | apply pw_below_drewN | apply below_drew1 | refine below_set ?_ GE420.out) | exact HB.out)))); have n4_ := Aside0.mk (blk_below (g := gb420) (o := .cells #[.int .u32 8192, .int .u32 8192, .slice Ao18 y424.length co18, .int .i64 0] 32 (0, 0)) (by (with_reducible repeat (first | refine blk_drewN ?_ _ | refine blk_drew ?_ | refine blk_alloc ?_ _)); exact BK420.out) hb); have n5_ := Aside0.mk (below_step (by repeat (first | (with_reducible first | exact HB.out | apply below_alloc | apply pw_below_drewN | apply below_drew1 | refine below_set ?_ GE420.out) | exact HB.out)) hb); clear HO426; clear HO429; clear HO433; clear BK420; clear HB; have HO426 := n0_; have HO429 := n1_; have HO433 := n2_; have HO436 := n3_; have BK420 := n4_; have HB := n5_; clear n0_ n1_ n2_ n3_ n4_ n5_; (try clear hb); (try clear hb2); (try clear hk); (try clear hi); (try clear ho0)))
      (try simp only [Act.put, List.setIfInBounds_toArray, List.set_cons_zero, List.set_cons_succ])
      go_cut [71] (fun v71 wc => ∃ (kq : Nat) (x71_14 : Bool), v71 = .bool x71_14 ∧ Aside0 (whetstonelaw08_BlocksAlone.j1 kq (wrap64 (1 + (Int.tmod (Go.bits .and .i64 a0 65535) 30))) (Int.tmod (Go.bits .and .i64 a1 65535) (wrap64 (1 + (Int.tmod (Go.bits .and .i64 a0 65535) 30)))) t434 x71_14 = some r) ∧ Aside0 (kq ≤ k1) ∧ Aside0 (Kd.R k40 40 wc w.heap.size (fun _ => True) v435 t434) ∧ Aside0 (Kd.R (Kd.int .u32) 24 wc w.heap.size (fun _ => True) (.slice Ao18 y424.length co18) y424) ∧ Aside0 (wc.heap[gb420]? = some (.cells #[.int .u32 8192, .int .u32 8192, (.slice Ao18 y424.length co18), .int .i64 0] 32 (0, 0))) ∧ Aside0 (Below w.heap.size w wc))
      case first =>
       have H := HC15.out
       clear HC15
       by_cases c26 : t430 = 0
       ·rw [if_pos c26] at H
        have c26b0 : (t430 == 0) = true := beq_iff_eq.mpr c26
        have c26b1 : (t430 != 0) = false := bne_eq_false_iff_eq.mpr c26
        clear c26
        (first | rw [c26b0] | (simp only [i64_w, i32_w]; rw [c26b0]) | skip)
        by_cases c27 : t437 = 0
        ·rw [if_pos c27] at H
         have c27b0 : (t437 == 0) = true := beq_iff_eq.mpr c27
         have c27b1 : (t437 != 0) = false := bne_eq_false_iff_eq.mpr c27
         clear c27
         by_cases c28 : (t427.length : Int) = 1
         ·rw [if_pos c28] at H
          have c28b0 : ((t427.length : Int) == 1) = true := beq_iff_eq.mpr c28
          have c28b1 : ((t427.length : Int) != 1) = false := bne_eq_false_iff_eq.mpr c28
          clear c28
          by_cases c29 : 0 < (t427.length : Int)
          ·rw [if_pos c29] at H
           have c29b0 : decide (0 < (t427.length : Int)) = true := decide_eq_true c29
           have c29b1 : decide (0 < t427.length) = true := decide_eq_true (by omega)
           clear c29
           have H' := Aside0.mk H
           clear H
           obtain ⟨Ao30, co30, eo30⟩ := Kd.R_slice HO429.out
           subst eo30
           have p438 : 0 ≤ (0 : Int) := (by omega)
           have q438 : 0 < (t427.length : Int) := of_decide_eq_true (by first | (with_reducible assumption) | assumption)
           obtain ⟨ad438, e438, hx438_0, hx438_1⟩ := at_T40 (Kd.R_reads' HO429.out).2.2 0 p438 q438
           cases e438
           have qi438 : (0 < t427.length) = True := eq_true (by omega)
           (try rw [show ((0 : Int)).toNat = 0 from rfl] at hx438_0)
           (try rw [show 0 * 2 = 0 from rfl] at hx438_0)
           (try rw [Addr.add_zero'] at hx438_0)
           (try rw [show ((0 : Int)).toNat = 0 from rfl] at hx438_1)
           (try rw [show 0 * 2 = 0 from rfl] at hx438_1)
           (try rw [Addr.add_zero'] at hx438_1)
           replace p438 := eq_true p438
           replace q438 := eq_true q438
           go_wp2
           go_meet
           case rel => exact ⟨_, ((!(((rd_T40 t427 0).f0) == 8192) || (!(((rd_T40 t427 0).f1) == (wrap64 ((wrap64 (1 + (Int.tmod (Go.bits .and .i64 a0 65535) 30))) + 1)))))), (by first | rfl | (simp; done) | (simp [*]; done)), H', ⟨by have := HK1.out; first | omega | exact Nat.le_refl _⟩, ⟨by (with_reducible repeat (first | apply Kd.R_alloc | apply Kd.R_drewN | apply Kd.R_drew)); exact Kd.R_mono HO436.out (fun _ hk => trivial)⟩, ⟨by (with_reducible repeat (first | apply Kd.R_alloc | apply Kd.R_drewN | apply Kd.R_drew)); exact Kd.R_mono HO426.out (fun _ hk => trivial)⟩, ⟨by (with_reducible repeat (first | refine blk_drewN ?_ _ | refine blk_drew ?_ | refine blk_alloc ?_ _)); exact BK420.out⟩, ⟨by repeat (first | (with_reducible first | exact HB.out | apply below_alloc | apply pw_below_drewN | apply below_drew1 | refine below_set ?_ GE420.out) | exact HB.out)⟩⟩
          ·rw [if_neg c29] at H
           exact absurd H (by simp)
         ·rw [if_neg c28] at H
          have c28b0 : ((t427.length : Int) == 1) = false := beq_eq_false_iff_ne.mpr c28
          have c28b1 : ((t427.length : Int) != 1) = true := bne_iff_ne.mpr c28
          have H' := Aside0.mk H
          clear H
          obtain ⟨Ao31, co31, eo31⟩ := Kd.R_slice HO429.out
          subst eo31
          go_wp2
          go_meet
          case rel => exact ⟨_, (true), (by first | rfl | (simp; done) | (simp [*]; done)), H', ⟨by have := HK1.out; first | omega | exact Nat.le_refl _⟩, ⟨by (with_reducible repeat (first | apply Kd.R_alloc | apply Kd.R_drewN | apply Kd.R_drew)); exact Kd.R_mono HO436.out (fun _ hk => trivial)⟩, ⟨by (with_reducible repeat (first | apply Kd.R_alloc | apply Kd.R_drewN | apply Kd.R_drew)); exact Kd.R_mono HO426.out (fun _ hk => trivial)⟩, ⟨by (with_reducible repeat (first | refine blk_drewN ?_ _ | refine blk_drew ?_ | refine blk_alloc ?_ _)); exact BK420.out⟩, ⟨by repeat (first | (with_reducible first | exact HB.out | apply below_alloc | apply pw_below_drewN | apply below_drew1 | refine below_set ?_ GE420.out) | exact HB.out)⟩⟩
        ·rw [if_neg c27] at H
         have c27b0 : (t437 == 0) = false := beq_eq_false_iff_ne.mpr c27
         have c27b1 : (t437 != 0) = true := bne_iff_ne.mpr c27
         have H' := Aside0.mk H
         clear H
         go_wp2
         go_meet
         case rel => exact ⟨_, (true), (by first | rfl | (simp; done) | (simp [*]; done)), H', ⟨by have := HK1.out; first | omega | exact Nat.le_refl _⟩, ⟨by (with_reducible repeat (first | apply Kd.R_alloc | apply Kd.R_drewN | apply Kd.R_drew)); exact Kd.R_mono HO436.out (fun _ hk => trivial)⟩, ⟨by (with_reducible repeat (first | apply Kd.R_alloc | apply Kd.R_drewN | apply Kd.R_drew)); exact Kd.R_mono HO426.out (fun _ hk => trivial)⟩, ⟨by (with_reducible repeat (first | refine blk_drewN ?_ _ | refine blk_drew ?_ | refine blk_alloc ?_ _)); exact BK420.out⟩, ⟨by repeat (first | (with_reducible first | exact HB.out | apply below_alloc | apply pw_below_drewN | apply below_drew1 | refine below_set ?_ GE420.out) | exact HB.out)⟩⟩
       ·rw [if_neg c26] at H
        have c26b0 : (t430 == 0) = false := beq_eq_false_iff_ne.mpr c26
        have c26b1 : (t430 != 0) = true := bne_iff_ne.mpr c26
        (first | rw [c26b0] | (simp only [i64_w, i32_w]; rw [c26b0]) | skip)
        have H' := Aside0.mk H
        clear H
        go_wp2
        go_meet
        case rel => exact ⟨_, (true), (by first | rfl | (simp; done) | (simp [*]; done)), H', ⟨by have := HK1.out; first | omega | exact Nat.le_refl _⟩, ⟨by (with_reducible repeat (first | apply Kd.R_alloc | apply Kd.R_drewN | apply Kd.R_drew)); exact Kd.R_mono HO436.out (fun _ hk => trivial)⟩, ⟨by (with_reducible repeat (first | apply Kd.R_alloc | apply Kd.R_drewN | apply Kd.R_drew)); exact Kd.R_mono HO426.out (fun _ hk => trivial)⟩, ⟨by (with_reducible repeat (first | refine blk_drewN ?_ _ | refine blk_drew ?_ | refine blk_alloc ?_ _)); exact BK420.out⟩, ⟨by repeat (first | (with_reducible first | exact HB.out | apply below_alloc | apply pw_below_drewN | apply below_drew1 | refine below_set ?_ GE420.out) | exact HB.out)⟩⟩
      case rest =>
       clear HC15
       try clear c1
       try clear c2
       try clear p2
       try clear c3
       try clear c3b0
       try clear c3b1
       try clear p4
       try clear q4
       try clear hx4
       try clear qi4
       try clear c6
       try clear c6b0
       try clear p6
       try clear c7
       try clear c9
       try clear c12
       try clear c19
       try clear c26
       try clear c26b0
       try clear c26b1
       try clear c27
       try clear c27b0
       try clear c27b1
       try clear c28
       try clear c28b0
       try clear c28b1
       try clear c29
       try clear c29b0
       try clear c29b1
       try clear hcz11_0
       try clear hcz11_1
       try clear hcz11_2
       try clear hcz11_3
       try clear hcz16_0
       try clear hcz16_1
       try clear hcz16_2
       try clear hcz16_3
       try clear hcz19_0
       try clear hcz19_1
       try clear hcz19_2
       try clear hcz19_3
       try clear hcz21_0
       try clear hcz21_1
       try clear hcz21_2
       try clear hcz21_3
       try clear hcz5_0
       try clear hcz5_1
       try clear hcz5_2
       try clear hcz5_3
       try clear hcz8_0
       try clear hcz8_1
       try clear hcz8_2
       try clear hcz8_3
       try clear hfz11_0
       try clear hfz11_1
       try clear hfz11_2
       try clear hfz11_3
       try clear hfz16_0
       try clear hfz16_1
       try clear hfz16_2
       try clear hfz16_3
       try clear hfz19_0
       try clear hfz19_1
       try clear hfz19_2
       try clear hfz19_3
       try clear hfz21_0
       try clear hfz21_1
       try clear hfz21_2
       try clear hfz21_3
       try clear hfz5_0
       try clear hfz5_1
       try clear hfz5_2
       try clear hfz5_3
       try clear hfz8_0
       try clear hfz8_1
       try clear hfz8_2
       try clear hfz8_3
       try clear hx438_0
       try clear hx438_1
       try clear p2
       try clear p438
       try clear q438
       obtain ⟨kq, x71_14, rfl, HA, HJ14, HO_11, HO_421002, BK420, HB⟩ := hcut
       cases kq with
       | zero => exact absurd HA.out (by simp [whetstonelaw08_BlocksAlone.j1])
       | succ kj14 =>
        have H := HA.out
        clear HA
        simp only [whetstonelaw08_BlocksAlone.j1] at H
        by_cases c32 : x71_14 = true
        ·subst c32
         have H1 : (some false) = some r := by rw [if_pos rfl] at H; exact H
         clear H
         have H := H1
         clear H1
         obtain rfl := Option.some.inj H
         go_wp2
         go_ret
         exact ⟨by first | rfl | (simp [errW_none, errW_some] <;> rfl) | (simp [*, errW_none, errW_some] <;> rfl), by repeat (first | (with_reducible first | exact HB.out | apply below_alloc | apply pw_below_drewN | apply below_drew1 | refine below_set ?_ GE420.out) | exact HB.out)⟩
        ·replace c32 := Bool.eq_false_iff.mpr c32
         subst c32
         have H1 : (if (Int.tmod (Go.bits .and .i64 a1 65535) (wrap64 (1 + (Int.tmod (Go.bits .and .i64 a0 65535) 30)))) = 0 then (if (t434.length : Int) = 1 then ((whetstonelaw08_fixed.f).bind fun t439 => (some t439)) else (some false)) else (if (t434.length : Int) = 2 then (if 0 < (t434.length : Int) then (if (((rd_T40 t434 0).f0) == 8192 && (((rd_T40 t434 0).f1) == (Int.tmod (Go.bits .and .i64 a1 65535) (wrap64 (1 + (Int.tmod (Go.bits .and .i64 a0 65535) 30)))))) = true then (if 1 < (t434.length : Int) then (if (((rd_T40 t434 1).f0) == ((8192 + (wrap64 (4 * (Int.tmod (Go.bits .and .i64 a1 65535) (wrap64 (1 + (Int.tmod (Go.bits .and .i64 a0 65535) 30))))))) % 4294967296) && (((rd_T40 t434 1).f1) == (wrap64 ((wrap64 ((wrap64 (1 + (Int.tmod (Go.bits .and .i64 a0 65535) 30))) + 1)) - (Int.tmod (Go.bits .and .i64 a1 65535) (wrap64 (1 + (Int.tmod (Go.bits .and .i64 a0 65535) 30)))))))) = true then ((whetstonelaw08_fixed.f).bind fun t442 => (some t442)) else (some false)) else (none)) else (some false)) else (none)) else (some false))) = some r := by rw [if_neg (show ¬ (false = true) by decide)] at H; exact H
         clear H
         have H := H1
         clear H1
         by_cases c33 : (Int.tmod (Go.bits .and .i64 a1 65535) (wrap64 (1 + (Int.tmod (Go.bits .and .i64 a0 65535) 30)))) = 0
         ·rw [if_pos c33] at H
          have c33b0 : ((Int.tmod (Go.bits .and .i64 a1 65535) (wrap64 (1 + (Int.tmod (Go.bits .and .i64 a0 65535) 30)))) == 0) = true := beq_iff_eq.mpr c33
          have c33b1 : ((Int.tmod (Go.bits .and .i64 a1 65535) (wrap64 (1 + (Int.tmod (Go.bits .and .i64 a0 65535) 30)))) != 0) = false := bne_eq_false_iff_eq.mpr c33
          clear c33
          by_cases c34 : (t434.length : Int) = 1
          ·rw [if_pos c34] at H
           have c34b0 : ((t434.length : Int) == 1) = true := beq_iff_eq.mpr c34
           have c34b1 : ((t434.length : Int) != 1) = false := bne_eq_false_iff_eq.mpr c34
           clear c34
           replace H := Option.bind_eq_some_iff.mp H
           obtain ⟨t439, A350, H⟩ := H
           replace H : (some t439) = some r := H
           have A35 := Aside0.mk A350
           clear A350
           obtain rfl := Option.some.inj H
           obtain ⟨Ao36, co36, eo36⟩ := Kd.R_slice HO_11.out
           subst eo36
           go_wp2_with (first | (go_at_call 11; (with_reducible refine (whetstonelaw08_fixed.calls  t439 _ A35.out).mono ?_); rintro e w37 ⟨rfl, hb⟩; have n0_ := Aside0.mk (Kd.R_below (by (with_reducible repeat (first | apply Kd.R_alloc | apply Kd.R_drewN | apply Kd.R_drew)); exact HO_11.out) hb); have n1_ := Aside0.mk (Kd.R_below (by (with_reducible repeat (first | apply Kd.R_alloc | apply Kd.R_drewN | apply Kd.R_drew)); exact HO_421002.out) hb); have n2_ := Aside0.mk (blk_below (g := gb420) (o := .cells #[.int .u32 8192, .int .u32 8192, .slice Ao18 y424.length co18, .int .i64 0] 32 (0, 0)) (by (with_reducible repeat (first | refine blk_drewN ?_ _ | refine blk_drew ?_ | refine blk_alloc ?_ _)); exact BK420.out) hb); have n3_ := Aside0.mk (below_step (by repeat (first | (with_reducible first | exact HB.out | apply below_alloc | apply pw_below_drewN | apply below_drew1 | refine below_set ?_ GE420.out) | exact HB.out)) hb); clear HO_11; clear HO_421002; clear BK420; clear HB; have HO_11 := n0_; have HO_421002 := n1_; have BK420 := n2_; have HB := n3_; clear n0_ n1_ n2_ n3_; (try clear hb); (try clear hb2); (try clear hk); (try clear hi)))
           go_ret
           exact ⟨by first | rfl | (simp [errW_none, errW_some] <;> rfl) | (simp [*, errW_none, errW_some] <;> rfl), by repeat (first | (with_reducible first | exact HB.out | apply below_alloc | apply pw_below_drewN | apply below_drew1 | refine below_set ?_ GE420.out) | exact HB.out)⟩
          ·rw [if_neg c34] at H
           have c34b0 : ((t434.length : Int) == 1) = false := beq_eq_false_iff_ne.mpr c34
           have c34b1 : ((t434.length : Int) != 1) = true := bne_iff_ne.mpr c34
           obtain rfl := Option.some.inj H
           obtain ⟨Ao38, co38, eo38⟩ := Kd.R_slice HO_11.out
           subst eo38
           go_wp2
           go_ret
           exact ⟨by first | rfl | (simp [errW_none, errW_some] <;> rfl) | (simp [*, errW_none, errW_some] <;> rfl), by repeat (first | (with_reducible first | exact HB.out | apply below_alloc | apply pw_below_drewN | apply below_drew1 | refine below_set ?_ GE420.out) | exact HB.out)⟩
         ·rw [if_neg c33] at H
          have c33b0 : ((Int.tmod (Go.bits .and .i64 a1 65535) (wrap64 (1 + (Int.tmod (Go.bits .and .i64 a0 65535) 30)))) == 0) = false := beq_eq_false_iff_ne.mpr c33
          have c33b1 : ((Int.tmod (Go.bits .and .i64 a1 65535) (wrap64 (1 + (Int.tmod (Go.bits .and .i64 a0 65535) 30)))) != 0) = true := bne_iff_ne.mpr c33
          by_cases c39 : (t434.length : Int) = 2
          ·rw [if_pos c39] at H
           have c39b0 : ((t434.length : Int) == 2) = true := beq_iff_eq.mpr c39
           have c39b1 : ((t434.length : Int) != 2) = false := bne_eq_false_iff_eq.mpr c39
           clear c39
           by_cases c40 : 0 < (t434.length : Int)
           ·rw [if_pos c40] at H
            have c40b0 : decide (0 < (t434.length : Int)) = true := decide_eq_true c40
            have c40b1 : decide (0 < t434.length) = true := decide_eq_true (by omega)
            clear c40
            by_cases c41 : (((rd_T40 t434 0).f0) == 8192 && (((rd_T40 t434 0).f1) == (Int.tmod (Go.bits .and .i64 a1 65535) (wrap64 (1 + (Int.tmod (Go.bits .and .i64 a0 65535) 30)))))) = true
            ·rw [if_pos c41] at H
             have c41b0 : (((rd_T40 t434 0).f0) == 8192 && (((rd_T40 t434 0).f1) == (Int.tmod (Go.bits .and .i64 a1 65535) (wrap64 (1 + (Int.tmod (Go.bits .and .i64 a0 65535) 30)))))) = true := c41
             (try (have c41b1 : decide (((rd_T40 t434 0).f0) = 8192 && (((rd_T40 t434 0).f1) == (Int.tmod (Go.bits .and .i64 a1 65535) (wrap64 (1 + (Int.tmod (Go.bits .and .i64 a0 65535) 30)))))) = true := by simpa using c41))
             (try (have c41b2 : (((rd_T40 t434 0).f0) == 8192 && (((rd_T40 t434 0).f1) == (Int.tmod (Go.bits .and .i64 a1 65535) (wrap64 (1 + (Int.tmod (Go.bits .and .i64 a0 65535) 30)))))) = true := by simpa using c41))
             clear c41
             by_cases c42 : 1 < (t434.length : Int)
             ·rw [if_pos c42] at H
              have c42b0 : decide (1 < (t434.length : Int)) = true := decide_eq_true c42
              have c42b1 : decide (1 < t434.length) = true := decide_eq_true (by omega)
              clear c42
              by_cases c43 : (((rd_T40 t434 1).f0) == ((8192 + (wrap64 (4 * (Int.tmod (Go.bits .and .i64 a1 65535) (wrap64 (1 + (Int.tmod (Go.bits .and .i64 a0 65535) 30))))))) % 4294967296) && (((rd_T40 t434 1).f1) == (wrap64 ((wrap64 ((wrap64 (1 + (Int.tmod (Go.bits .and .i64 a0 65535) 30))) + 1)) - (Int.tmod (Go.bits .and .i64 a1 65535) (wrap64 (1 + (Int.tmod (Go.bits .and .i64 a0 65535) 30)))))))) = true
              ·rw [if_pos c43] at H
               have c43b0 : (((rd_T40 t434 1).f0) == ((8192 + (wrap64 (4 * (Int.tmod (Go.bits .and .i64 a1 65535) (wrap64 (1 + (Int.tmod (Go.bits .and .i64 a0 65535) 30))))))) % 4294967296) && (((rd_T40 t434 1).f1) == (wrap64 ((wrap64 ((wrap64 (1 + (Int.tmod (Go.bits .and .i64 a0 65535) 30))) + 1)) - (Int.tmod (Go.bits .and .i64 a1 65535) (wrap64 (1 + (Int.tmod (Go.bits .and .i64 a0 65535) 30)))))))) = true := c43
               (try (have c43b1 : decide (((rd_T40 t434 1).f0) = ((8192 + (wrap64 (4 * (Int.tmod (Go.bits .and .i64 a1 65535) (wrap64 (1 + (Int.tmod (Go.bits .and .i64 a0 65535) 30))))))) % 4294967296) && (((rd_T40 t434 1).f1) == (wrap64 ((wrap64 ((wrap64 (1 + (Int.tmod (Go.bits .and .i64 a0 65535) 30))) + 1)) - (Int.tmod (Go.bits .and .i64 a1 65535) (wrap64 (1 + (Int.tmod (Go.bits .and .i64 a0 65535) 30)))))))) = true := by simpa using c43))
               (try (have c43b2 : (((rd_T40 t434 1).f0) == ((8192 + (wrap64 (4 * (Int.tmod (Go.bits .and .i64 a1 65535) (wrap64 (1 + (Int.tmod (Go.bits .and .i64 a0 65535) 30))))))) % 4294967296) && (((rd_T40 t434 1).f1) == (wrap64 ((wrap64 ((wrap64 (1 + (Int.tmod (Go.bits .and .i64 a0 65535) 30))) + 1)) - (Int.tmod (Go.bits .and .i64 a1 65535) (wrap64 (1 + (Int.tmod (Go.bits .and .i64 a0 65535) 30)))))))) = true := by simpa using c43))
               clear c43
               replace H := Option.bind_eq_some_iff.mp H
               obtain ⟨t442, A440, H⟩ := H
               replace H : (some t442) = some r := H
               have A44 := Aside0.mk A440
               clear A440
               obtain rfl := Option.some.inj H
               obtain ⟨Ao45, co45, eo45⟩ := Kd.R_slice HO_11.out
               subst eo45
               have p440 : 0 ≤ (0 : Int) := (by omega)
               have q440 : 0 < (t434.length : Int) := of_decide_eq_true (by first | (with_reducible assumption) | assumption)
               obtain ⟨ad440, e440, hx440_0, hx440_1⟩ := at_T40 (Kd.R_reads' HO_11.out).2.2 0 p440 q440
               cases e440
               have qi440 : (0 < t434.length) = True := eq_true (by omega)
               (try rw [show ((0 : Int)).toNat = 0 from rfl] at hx440_0)
               (try rw [show 0 * 2 = 0 from rfl] at hx440_0)
               (try rw [Addr.add_zero'] at hx440_0)
               (try rw [show ((0 : Int)).toNat = 0 from rfl] at hx440_1)
               (try rw [show 0 * 2 = 0 from rfl] at hx440_1)
               (try rw [Addr.add_zero'] at hx440_1)
               replace p440 := eq_true p440
               replace q440 := eq_true q440
               have p441 : 0 ≤ (1 : Int) := (by omega)
               have q441 : 1 < (t434.length : Int) := of_decide_eq_true (by first | (with_reducible assumption) | assumption)
               obtain ⟨ad441, e441, hx441_0, hx441_1⟩ := at_T40 (Kd.R_reads' HO_11.out).2.2 1 p441 q441
               obtain rfl : ad440 = ad441 := (by injection e441)
               (try simp only [show (1 : Int).toNat = 1 from rfl, Nat.reduceMul, Nat.reduceEqDiff, Go.Addr.add, ↓reduceIte] at hx441_0)
               (try simp only [show (1 : Int).toNat = 1 from rfl, Nat.reduceMul, Nat.reduceEqDiff, Go.Addr.add, ↓reduceIte] at hx441_1)
               have qi441 : (1 < t434.length) = True := eq_true (by omega)
               (try rw [show ((1 : Int)).toNat = 1 from rfl] at hx441_0)
               (try rw [show 1 * 2 = 2 from rfl] at hx441_0)
               (try rw [show ((1 : Int)).toNat = 1 from rfl] at hx441_1)
               (try rw [show 1 * 2 = 2 from rfl] at hx441_1)
               replace p441 := eq_true p441
               replace q441 := eq_true q441
               go_wp2_with (first | (go_at_call 11; (with_reducible refine (whetstonelaw08_fixed.calls  t442 _ A44.out).mono ?_); rintro e w46 ⟨rfl, hb⟩; have n0_ := Aside0.mk (Kd.R_below (by (with_reducible repeat (first | apply Kd.R_alloc | apply Kd.R_drewN | apply Kd.R_drew)); exact HO_11.out) hb); have n1_ := Aside0.mk (Kd.R_below (by (with_reducible repeat (first | apply Kd.R_alloc | apply Kd.R_drewN | apply Kd.R_drew)); exact HO_421002.out) hb); have n2_ := Aside0.mk (blk_below (g := gb420) (o := .cells #[.int .u32 8192, .int .u32 8192, .slice Ao18 y424.length co18, .int .i64 0] 32 (0, 0)) (by (with_reducible repeat (first | refine blk_drewN ?_ _ | refine blk_drew ?_ | refine blk_alloc ?_ _)); exact BK420.out) hb); have n3_ := Aside0.mk (below_step (by repeat (first | (with_reducible first | exact HB.out | apply below_alloc | apply pw_below_drewN | apply below_drew1 | refine below_set ?_ GE420.out) | exact HB.out)) hb); clear HO_11; clear HO_421002; clear BK420; clear HB; have HO_11 := n0_; have HO_421002 := n1_; have BK420 := n2_; have HB := n3_; clear n0_ n1_ n2_ n3_; (try clear hb); (try clear hb2); (try clear hk); (try clear hi)))
               go_ret
               exact ⟨by first | rfl | (simp [errW_none, errW_some] <;> rfl) | (simp [*, errW_none, errW_some] <;> rfl), by repeat (first | (with_reducible first | exact HB.out | apply below_alloc | apply pw_below_drewN | apply below_drew1 | refine below_set ?_ GE420.out) | exact HB.out)⟩
              ·rw [if_neg c43] at H
               have c43b0 : (((rd_T40 t434 1).f0) == ((8192 + (wrap64 (4 * (Int.tmod (Go.bits .and .i64 a1 65535) (wrap64 (1 + (Int.tmod (Go.bits .and .i64 a0 65535) 30))))))) % 4294967296) && (((rd_T40 t434 1).f1) == (wrap64 ((wrap64 ((wrap64 (1 + (Int.tmod (Go.bits .and .i64 a0 65535) 30))) + 1)) - (Int.tmod (Go.bits .and .i64 a1 65535) (wrap64 (1 + (Int.tmod (Go.bits .and .i64 a0 65535) 30)))))))) = false := by simpa using c43
               (try (have c43b1 : decide (((rd_T40 t434 1).f0) = ((8192 + (wrap64 (4 * (Int.tmod (Go.bits .and .i64 a1 65535) (wrap64 (1 + (Int.tmod (Go.bits .and .i64 a0 65535) 30))))))) % 4294967296) && (((rd_T40 t434 1).f1) == (wrap64 ((wrap64 ((wrap64 (1 + (Int.tmod (Go.bits .and .i64 a0 65535) 30))) + 1)) - (Int.tmod (Go.bits .and .i64 a1 65535) (wrap64 (1 + (Int.tmod (Go.bits .and .i64 a0 65535) 30)))))))) = false := by simpa using c43))
               (try (have c43b2 : (((rd_T40 t434 1).f0) == ((8192 + (wrap64 (4 * (Int.tmod (Go.bits .and .i64 a1 65535) (wrap64 (1 + (Int.tmod (Go.bits .and .i64 a0 65535) 30))))))) % 4294967296) && (((rd_T40 t434 1).f1) == (wrap64 ((wrap64 ((wrap64 (1 + (Int.tmod (Go.bits .and .i64 a0 65535) 30))) + 1)) - (Int.tmod (Go.bits .and .i64 a1 65535) (wrap64 (1 + (Int.tmod (Go.bits .and .i64 a0 65535) 30)))))))) = false := by simpa using c43))
               (try (have c43b3 : ¬ (((rd_T40 t434 1).f0) = ((8192 + (wrap64 (4 * (Int.tmod (Go.bits .and .i64 a1 65535) (wrap64 (1 + (Int.tmod (Go.bits .and .i64 a0 65535) 30))))))) % 4294967296) && (((rd_T40 t434 1).f1) == (wrap64 ((wrap64 ((wrap64 (1 + (Int.tmod (Go.bits .and .i64 a0 65535) 30))) + 1)) - (Int.tmod (Go.bits .and .i64 a1 65535) (wrap64 (1 + (Int.tmod (Go.bits .and .i64 a0 65535) 30)))))))) := by simpa using c43))
               clear c43
               obtain rfl := Option.some.inj H
               obtain ⟨Ao47, co47, eo47⟩ := Kd.R_slice HO_11.out
               subst eo47
               have p440 : 0 ≤ (0 : Int) := (by omega)
               have q440 : 0 < (t434.length : Int) := of_decide_eq_true (by first | (with_reducible assumption) | assumption)
               obtain ⟨ad440, e440, hx440_0, hx440_1⟩ := at_T40 (Kd.R_reads' HO_11.out).2.2 0 p440 q440
               cases e440
               have qi440 : (0 < t434.length) = True := eq_true (by omega)
               (try rw [show ((0 : Int)).toNat = 0 from rfl] at hx440_0)
               (try rw [show 0 * 2 = 0 from rfl] at hx440_0)
               (try rw [Addr.add_zero'] at hx440_0)
               (try rw [show ((0 : Int)).toNat = 0 from rfl] at hx440_1)
               (try rw [show 0 * 2 = 0 from rfl] at hx440_1)
               (try rw [Addr.add_zero'] at hx440_1)
               replace p440 := eq_true p440
               replace q440 := eq_true q440
               have p441 : 0 ≤ (1 : Int) := (by omega)
               have q441 : 1 < (t434.length : Int) := of_decide_eq_true (by first | (with_reducible assumption) | assumption)
               obtain ⟨ad441, e441, hx441_0, hx441_1⟩ := at_T40 (Kd.R_reads' HO_11.out).2.2 1 p441 q441
               obtain rfl : ad440 = ad441 := (by injection e441)
               (try simp only [show (1 : Int).toNat = 1 from rfl, Nat.reduceMul, Nat.reduceEqDiff, Go.Addr.add, ↓reduceIte] at hx441_0)
               (try simp only [show (1 : Int).toNat = 1 from rfl, Nat.reduceMul, Nat.reduceEqDiff, Go.Addr.add, ↓reduceIte] at hx441_1)
               have qi441 : (1 < t434.length) = True := eq_true (by omega)
               (try rw [show ((1 : Int)).toNat = 1 from rfl] at hx441_0)
               (try rw [show 1 * 2 = 2 from rfl] at hx441_0)
               (try rw [show ((1 : Int)).toNat = 1 from rfl] at hx441_1)
               (try rw [show 1 * 2 = 2 from rfl] at hx441_1)
               replace p441 := eq_true p441
               replace q441 := eq_true q441
               go_wp2
               go_ret
               exact ⟨by first | rfl | (simp [errW_none, errW_some] <;> rfl) | (simp [*, errW_none, errW_some] <;> rfl), by repeat (first | (with_reducible first | exact HB.out | apply below_alloc | apply pw_below_drewN | apply below_drew1 | refine below_set ?_ GE420.out) | exact HB.out)⟩
             ·rw [if_neg c42] at H
              exact absurd H (by simp)
            ·rw [if_neg c41] at H
             have c41b0 : (((rd_T40 t434 0).f0) == 8192 && (((rd_T40 t434 0).f1) == (Int.tmod (Go.bits .and .i64 a1 65535) (wrap64 (1 + (Int.tmod (Go.bits .and .i64 a0 65535) 30)))))) = false := by simpa using c41
             (try (have c41b1 : decide (((rd_T40 t434 0).f0) = 8192 && (((rd_T40 t434 0).f1) == (Int.tmod (Go.bits .and .i64 a1 65535) (wrap64 (1 + (Int.tmod (Go.bits .and .i64 a0 65535) 30)))))) = false := by simpa using c41))
             (try (have c41b2 : (((rd_T40 t434 0).f0) == 8192 && (((rd_T40 t434 0).f1) == (Int.tmod (Go.bits .and .i64 a1 65535) (wrap64 (1 + (Int.tmod (Go.bits .and .i64 a0 65535) 30)))))) = false := by simpa using c41))
             (try (have c41b3 : ¬ (((rd_T40 t434 0).f0) = 8192 && (((rd_T40 t434 0).f1) == (Int.tmod (Go.bits .and .i64 a1 65535) (wrap64 (1 + (Int.tmod (Go.bits .and .i64 a0 65535) 30)))))) := by simpa using c41))
             clear c41
             obtain rfl := Option.some.inj H
             obtain ⟨Ao48, co48, eo48⟩ := Kd.R_slice HO_11.out
             subst eo48
             have p440 : 0 ≤ (0 : Int) := (by omega)
             have q440 : 0 < (t434.length : Int) := of_decide_eq_true (by first | (with_reducible assumption) | assumption)
             obtain ⟨ad440, e440, hx440_0, hx440_1⟩ := at_T40 (Kd.R_reads' HO_11.out).2.2 0 p440 q440
             cases e440
             have qi440 : (0 < t434.length) = True := eq_true (by omega)
             (try rw [show ((0 : Int)).toNat = 0 from rfl] at hx440_0)
             (try rw [show 0 * 2 = 0 from rfl] at hx440_0)
             (try rw [Addr.add_zero'] at hx440_0)
             (try rw [show ((0 : Int)).toNat = 0 from rfl] at hx440_1)
             (try rw [show 0 * 2 = 0 from rfl] at hx440_1)
             (try rw [Addr.add_zero'] at hx440_1)
             replace p440 := eq_true p440
             replace q440 := eq_true q440
             go_wp2
             go_ret
             exact ⟨by first | rfl | (simp [errW_none, errW_some] <;> rfl) | (simp [*, errW_none, errW_some] <;> rfl), by repeat (first | (with_reducible first | exact HB.out | apply below_alloc | apply pw_below_drewN | apply below_drew1 | refine below_set ?_ GE420.out) | exact HB.out)⟩
           ·rw [if_neg c40] at H
            exact absurd H (by simp)
          ·rw [if_neg c39] at H
           have c39b0 : ((t434.length : Int) == 2) = false := beq_eq_false_iff_ne.mpr c39
           have c39b1 : ((t434.length : Int) != 2) = true := bne_iff_ne.mpr c39
           obtain rfl := Option.some.inj H
           obtain ⟨Ao49, co49, eo49⟩ := Kd.R_slice HO_11.out
           subst eo49
           go_wp2
           go_ret
           exact ⟨by first | rfl | (simp [errW_none, errW_some] <;> rfl) | (simp [*, errW_none, errW_some] <;> rfl), by repeat (first | (with_reducible first | exact HB.out | apply below_alloc | apply pw_below_drewN | apply below_drew1 | refine below_set ?_ GE420.out) | exact HB.out)⟩
     ·rw [if_neg c12] at H
      exact absurd H (by simp)
def whetstonelaw08_BlocksAlone.Pure : Prop := ∀ (a0 : Int) (a1 : Int), (Lit.int .i64 a0).wf = true → (Lit.int .i64 a1).wf = true → ∃ k, whetstonelaw08_BlocksAlone.f k a0 a1 = some true
theorem whetstonelaw08_BlocksAlone.walk (P : whetstonelaw08_BlocksAlone.Pure) (a0 : Int) (a1 : Int) (w : World) (w0 : (Lit.int .i64 a0).wf = true) (w1 : (Lit.int .i64 a1).wf = true) :
  Calls Try.prog 9 #[.int .i64 a0, .int .i64 a1] w fun e w' => e = .returned (.bool true) ∧ Below w.heap.size w w' := by
 obtain ⟨k, h⟩ := P a0 a1 w0 w1
 refine (whetstonelaw08_BlocksAlone.calls k a0 a1 true w h).mono ?_
 rintro e w' ⟨rfl, hd⟩
 exact ⟨rfl, hd⟩
end Go.Proofs.Ytekenddkoahjgaa.Q
