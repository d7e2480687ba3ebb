-- Written by this session's own driver (wip/tools/ownprint.py) over the kit's print: walks of the translated Go, each function once.
import Derived.Test.YtebgdkhfeegcfaaQx0
import Derived.Test.YtebgdkhfeegcfaaQx1
import Derived.Test.YtebgdkhfeegcfaaQx2
import Derived.Test.YtebgdkhfeegcfaaQx5
namespace Go.Proofs.Ytebgdkhfeegcfaa.Q
open Go.RowKit Go.Proofs.YtebgdkhfeegcfaaW.PrintWords Go.Proofs.YtebgdkhfeegcfaaW.PrintLast Go.Proofs.YtebgdkhfeegcfaaW.PrintMore
attribute [local go_sem] max2_int min2_int max_two min_two max_three min_three max_four min_four   -- for this text's walks alone
attribute [local go_sem] imax_u32 imax_u8 isg_u32 isg_u8
set_option linter.unusedVariables false
set_option linter.unusedSimpArgs false

/-! ### whetstonelaw01_WordBack: function 5 -/
mutual
def whetstonelaw01_WordBack.j0 : Nat → Int → Int → Int → Bool → Option (Bool)
  | 0, _, _, _, _ => none
  | k + 1, x0, x1, x8, x44 => if x44 = true then (some false) else (if x8 < 32 then ((word_Sign.f k x1 x8).bind fun t202 => ((word_Field.f k x1 0 x8).bind fun t203 => ((word_Sign.f k t203 x8).bind fun t204 => (if t202 = t204 then ((word_Field.f k t202 0 x8).bind fun t205 => (whetstonelaw01_WordBack.j1 k x0 (t205 != t203))) else (whetstonelaw01_WordBack.j1 k x0 true))))) else (whetstonelaw01_WordBack.j1 k x0 false))
def whetstonelaw01_WordBack.j1 : Nat → Int → Bool → Option (Bool)
  | 0, _, _ => none
  | k + 1, x0, x68 => if x68 = true then (some false) else ((word_Field.f k x0 0 32).bind fun t206 => (if t206 = x0 then ((whetstonelaw01_fixed.f k).bind fun t207 => (some t207)) else (some false)))
end
def whetstonelaw01_WordBack.f (k : Nat) (a0 : Int) (a1 : Int) (a2_0 : Int) (a2_1 : Int) (a2_2 : Int) : Option (Bool) := if (wrap64 (32 - (Go.bits .and .i64 a2_0 31))) = 0 then (none) else ((word_Put.f k a0 (Go.bits .and .i64 a2_0 31) (wrap64 (1 + (Int.tmod (Go.bits .and .i64 a2_1 65535) (wrap64 (32 - (Go.bits .and .i64 a2_0 31)))))) a1).bind fun t197 => ((word_Field.f k t197 (Go.bits .and .i64 a2_0 31) (wrap64 (1 + (Int.tmod (Go.bits .and .i64 a2_1 65535) (wrap64 (32 - (Go.bits .and .i64 a2_0 31))))))).bind fun t198 => ((word_Field.f k a1 0 (wrap64 (1 + (Int.tmod (Go.bits .and .i64 a2_1 65535) (wrap64 (32 - (Go.bits .and .i64 a2_0 31))))))).bind fun t199 => (if t198 = t199 then ((word_Field.f k a0 (Go.bits .and .i64 a2_0 31) (wrap64 (1 + (Int.tmod (Go.bits .and .i64 a2_1 65535) (wrap64 (32 - (Go.bits .and .i64 a2_0 31))))))).bind fun t200 => ((word_Put.f k t197 (Go.bits .and .i64 a2_0 31) (wrap64 (1 + (Int.tmod (Go.bits .and .i64 a2_1 65535) (wrap64 (32 - (Go.bits .and .i64 a2_0 31)))))) t200).bind fun t201 => (whetstonelaw01_WordBack.j0 k a0 a1 (wrap64 (1 + (Int.tmod (Go.bits .and .i64 a2_1 65535) (wrap64 (32 - (Go.bits .and .i64 a2_0 31)))))) (t201 != a0)))) else (whetstonelaw01_WordBack.j0 k a0 a1 (wrap64 (1 + (Int.tmod (Go.bits .and .i64 a2_1 65535) (wrap64 (32 - (Go.bits .and .i64 a2_0 31)))))) true)))))
theorem whetstonelaw01_WordBack.mono_l : ∀ k, (∀ y0 y1 y2 y3, LeO (whetstonelaw01_WordBack.j0 k y0 y1 y2 y3) (whetstonelaw01_WordBack.j0 (k + 1) y0 y1 y2 y3)) ∧ (∀ y0 y1, LeO (whetstonelaw01_WordBack.j1 k y0 y1) (whetstonelaw01_WordBack.j1 (k + 1) y0 y1))
  | 0 => ⟨fun _ _ _ _ r h => by simp [whetstonelaw01_WordBack.j0] at h, fun _ _ r h => by simp [whetstonelaw01_WordBack.j1] at h⟩
  | k + 1 => by
    obtain ⟨ih0, ih1⟩ := whetstonelaw01_WordBack.mono_l k
    refine ⟨?_, ?_⟩
    · intro y0 y1 y2 y3
      unfold whetstonelaw01_WordBack.j0
      repeat' first
      | (with_reducible exact ih0 _ _ _ _)
      | (with_reducible exact ih1 _ _)
      | (with_reducible exact whetstonelaw01_fixed.mono _)
      | (with_reducible exact word_Field.mono _ _ _ _)
      | (with_reducible exact word_Put.mono _ _ _ _ _)
      | (with_reducible exact word_Sign.mono _ _ _)
      | (with_reducible exact LeO.refl _)
      | (with_reducible exact LeO.none _)
      | (with_reducible refine LeO.ite ?_ ?_)
      | (with_reducible refine LeO.bind ?_ (fun _ => ?_))
      | exact ih0 _ _ _ _
      | exact ih1 _ _
      | exact whetstonelaw01_fixed.mono _
      | exact word_Field.mono _ _ _ _
      | exact word_Put.mono _ _ _ _ _
      | exact word_Sign.mono _ _ _
      | exact LeO.none _
      | refine LeO.ite ?_ ?_
      | refine LeO.bind ?_ (fun _ => ?_)
    · intro y0 y1
      unfold whetstonelaw01_WordBack.j1
      repeat' first
      | (with_reducible exact ih0 _ _ _ _)
      | (with_reducible exact ih1 _ _)
      | (with_reducible exact whetstonelaw01_fixed.mono _)
      | (with_reducible exact word_Field.mono _ _ _ _)
      | (with_reducible exact word_Put.mono _ _ _ _ _)
      | (with_reducible exact word_Sign.mono _ _ _)
      | (with_reducible exact LeO.refl _)
      | (with_reducible exact LeO.none _)
      | (with_reducible refine LeO.ite ?_ ?_)
      | (with_reducible refine LeO.bind ?_ (fun _ => ?_))
      | exact ih0 _ _ _ _
      | exact ih1 _ _
      | exact whetstonelaw01_fixed.mono _
      | exact word_Field.mono _ _ _ _
      | exact word_Put.mono _ _ _ _ _
      | exact word_Sign.mono _ _ _
      | exact LeO.none _
      | refine LeO.ite ?_ ?_
      | refine LeO.bind ?_ (fun _ => ?_)
theorem whetstonelaw01_WordBack.mono : ∀ a0 a1 a2 a3 a4 k, LeO (whetstonelaw01_WordBack.f k a0 a1 a2 a3 a4) (whetstonelaw01_WordBack.f (k + 1) a0 a1 a2 a3 a4) := by
  intro a0 a1 a2 a3 a4 k
  obtain ⟨ih0, ih1⟩ := whetstonelaw01_WordBack.mono_l k
  unfold whetstonelaw01_WordBack.f
  repeat' first
      | (with_reducible exact ih0 _ _ _ _)
      | (with_reducible exact ih1 _ _)
      | (with_reducible exact whetstonelaw01_fixed.mono _)
      | (with_reducible exact word_Field.mono _ _ _ _)
      | (with_reducible exact word_Put.mono _ _ _ _ _)
      | (with_reducible exact word_Sign.mono _ _ _)
      | (with_reducible exact LeO.refl _)
      | (with_reducible exact LeO.none _)
      | (with_reducible refine LeO.ite ?_ ?_)
      | (with_reducible refine LeO.bind ?_ (fun _ => ?_))
      | exact ih0 _ _ _ _
      | exact ih1 _ _
      | exact whetstonelaw01_fixed.mono _
      | exact word_Field.mono _ _ _ _
      | exact word_Put.mono _ _ _ _ _
      | exact word_Sign.mono _ _ _
      | exact LeO.none _
      | refine LeO.ite ?_ ?_
      | refine LeO.bind ?_ (fun _ => ?_)
set_option maxHeartbeats 8000000 in
set_option maxRecDepth 100000 in
theorem whetstonelaw01_WordBack.calls (k : Nat) (a0 : Int) (a1 : Int) (a2_0 : Int) (a2_1 : Int) (a2_2 : Int) (r : Bool) (w : World) (h : whetstonelaw01_WordBack.f k a0 a1 a2_0 a2_1 a2_2 = some r) :
    Calls Try.prog 5 #[.int .u32 a0, .int .u32 a1, .agg #[.int .i64 a2_0, .int .i64 a2_1, .int .u32 a2_2]] w fun e w' => e = .returned (.bool r) ∧ Below w.heap.size w w' := by
  have hu24 := Try.underlying24
  have HB := Aside0.mk (Below.refl w.heap.size w)
  have H : (if (wrap64 (32 - (Go.bits .and .i64 a2_0 31))) = 0 then (none) else ((word_Put.f k a0 (Go.bits .and .i64 a2_0 31) (wrap64 (1 + (Int.tmod (Go.bits .and .i64 a2_1 65535) (wrap64 (32 - (Go.bits .and .i64 a2_0 31)))))) a1).bind fun t197 => ((word_Field.f k t197 (Go.bits .and .i64 a2_0 31) (wrap64 (1 + (Int.tmod (Go.bits .and .i64 a2_1 65535) (wrap64 (32 - (Go.bits .and .i64 a2_0 31))))))).bind fun t198 => ((word_Field.f k a1 0 (wrap64 (1 + (Int.tmod (Go.bits .and .i64 a2_1 65535) (wrap64 (32 - (Go.bits .and .i64 a2_0 31))))))).bind fun t199 => (if t198 = t199 then ((word_Field.f k a0 (Go.bits .and .i64 a2_0 31) (wrap64 (1 + (Int.tmod (Go.bits .and .i64 a2_1 65535) (wrap64 (32 - (Go.bits .and .i64 a2_0 31))))))).bind fun t200 => ((word_Put.f k t197 (Go.bits .and .i64 a2_0 31) (wrap64 (1 + (Int.tmod (Go.bits .and .i64 a2_1 65535) (wrap64 (32 - (Go.bits .and .i64 a2_0 31)))))) t200).bind fun t201 => (whetstonelaw01_WordBack.j0 k a0 a1 (wrap64 (1 + (Int.tmod (Go.bits .and .i64 a2_1 65535) (wrap64 (32 - (Go.bits .and .i64 a2_0 31)))))) (t201 != a0)))) else (whetstonelaw01_WordBack.j0 k a0 a1 (wrap64 (1 + (Int.tmod (Go.bits .and .i64 a2_1 65535) (wrap64 (32 - (Go.bits .and .i64 a2_0 31)))))) true)))))) = some r := h
  clear h
  by_cases c4 : (wrap64 (32 - (Go.bits .and .i64 a2_0 31))) = 0
  · rw [if_pos c4] at H
    exact absurd H (by simp)
  · rw [if_neg c4] at H
    have c4b0 : ((wrap64 (32 - (Go.bits .and .i64 a2_0 31))) == 0) = false := beq_eq_false_iff_ne.mpr c4
    have c4b1 : ((wrap64 (32 - (Go.bits .and .i64 a2_0 31))) != 0) = true := bne_iff_ne.mpr c4
    replace H := Option.bind_eq_some_iff.mp H
    obtain ⟨t197, A50, H⟩ := H
    replace H : ((word_Field.f k t197 (Go.bits .and .i64 a2_0 31) (wrap64 (1 + (Int.tmod (Go.bits .and .i64 a2_1 65535) (wrap64 (32 - (Go.bits .and .i64 a2_0 31))))))).bind fun t198 => ((word_Field.f k a1 0 (wrap64 (1 + (Int.tmod (Go.bits .and .i64 a2_1 65535) (wrap64 (32 - (Go.bits .and .i64 a2_0 31))))))).bind fun t199 => (if t198 = t199 then ((word_Field.f k a0 (Go.bits .and .i64 a2_0 31) (wrap64 (1 + (Int.tmod (Go.bits .and .i64 a2_1 65535) (wrap64 (32 - (Go.bits .and .i64 a2_0 31))))))).bind fun t200 => ((word_Put.f k t197 (Go.bits .and .i64 a2_0 31) (wrap64 (1 + (Int.tmod (Go.bits .and .i64 a2_1 65535) (wrap64 (32 - (Go.bits .and .i64 a2_0 31)))))) t200).bind fun t201 => (whetstonelaw01_WordBack.j0 k a0 a1 (wrap64 (1 + (Int.tmod (Go.bits .and .i64 a2_1 65535) (wrap64 (32 - (Go.bits .and .i64 a2_0 31)))))) (t201 != a0)))) else (whetstonelaw01_WordBack.j0 k a0 a1 (wrap64 (1 + (Int.tmod (Go.bits .and .i64 a2_1 65535) (wrap64 (32 - (Go.bits .and .i64 a2_0 31)))))) true)))) = some r := H
    have A5 := Aside0.mk A50
    clear A50
    have HC6 := Aside0.mk H
    clear H
    go_enter Try.func5, Try.ntmps5
    go_upto_region 4 with (first | ((with_reducible refine gate_dst (N := 5) rfl ?_); refine box_event ?hg (N := 5) ?hd (cs := #[.int .i64 a2_0, .int .i64 a2_1, .int .u32 a2_2]) (t := 24) ?hr ?_; (case hd => rfl); (case hg => rfl); (case hr => first | (go_simp; done) | (go_simp; rfl)); intro gb196 hg w7 hbox hb; have n0_ := Aside0.mk (below_step (by repeat (first | (with_reducible first | exact HB.out | apply below_alloc | apply pw_below_drewN | apply below_drew1) | exact HB.out)) hb); have n1_ := Aside0.mk (hbox); have n2_ := Aside0.mk ((by rw [hg]; exact (below_size (by repeat (first | (with_reducible first | exact HB.out | apply below_alloc | apply pw_below_drewN | apply below_drew1) | exact HB.out))) : w.heap.size ≤ gb196)); have n3_ := Aside0.mk ((by rw [hg]; exact (below_size (by repeat (first | (with_reducible first | exact HB.out | apply below_alloc | apply pw_below_drewN | apply below_drew1) | exact HB.out))) : w.heap.size ≤ gb196)); clear HB; have HB := n0_; have BK196 := n1_; have GW196 := n2_; have GE196 := n3_; clear n0_ n1_ n2_ n3_; clear hb hbox hg; have hcz8_0 : w7.cell? ⟨gb196, 0, none⟩ = some (.int .i64 a2_0) := (blk_cell BK196.out 0).trans rfl; have hcz8_1 : w7.cell? ⟨gb196, 1, none⟩ = some (.int .i64 a2_1) := (blk_cell BK196.out 1).trans rfl; have hcz8_2 : w7.cell? ⟨gb196, 2, none⟩ = some (.int .u32 a2_2) := (blk_cell BK196.out 2).trans rfl; have hfz8_0 := blk_frozen BK196.out 0; have hfz8_1 := blk_frozen BK196.out 1; have hfz8_2 := blk_frozen BK196.out 2) | ((with_reducible refine gate_callee (f := 18) rfl ?_); refine goesL_ (some 24) rfl rfl Try.func18 (by kernel_rfl) rfl #[.int .u32 a0, .int .i64 (Go.bits .and .i64 a2_0 31), .int .i64 (wrap64 (1 + (Int.tmod (Go.bits .and .i64 a2_1 65535) (wrap64 (32 - (Go.bits .and .i64 a2_0 31)))))), .int .u32 a1] rfl (by (try simp only [List.map_toArray, List.map_cons, List.map_nil]); first | done | rfl | (simp only [List.length_drop, List.length_take]; rfl)) ?_; (with_reducible refine (word_Put.calls k a0 (Go.bits .and .i64 a2_0 31) (wrap64 (1 + (Int.tmod (Go.bits .and .i64 a2_1 65535) (wrap64 (32 - (Go.bits .and .i64 a2_0 31)))))) a1 t197 _ A5.out).mono ?_); rintro e w' ⟨rfl, ⟨nd, rfl⟩⟩; refine ⟨_, rfl, ?_⟩))
    (try simp only [Act.put, List.setIfInBounds_toArray, List.set_cons_zero, List.set_cons_succ])
    go_cut [44] (fun v44 wc => ∃ (kq : Nat) (x44_5 : Bool), v44 = .bool x44_5 ∧ Aside0 (whetstonelaw01_WordBack.j0 kq a0 a1 (wrap64 (1 + (Int.tmod (Go.bits .and .i64 a2_1 65535) (wrap64 (32 - (Go.bits .and .i64 a2_0 31)))))) x44_5 = some r) ∧ Aside0 (kq ≤ k) ∧ Aside0 (wc.heap[gb196]? = some (.cells #[.int .i64 a2_0, .int .i64 a2_1, .int .u32 a2_2] 24 (0, 0))) ∧ Aside0 (Below w.heap.size w wc))
    case first =>
      have H := HC6.out
      clear HC6
      replace H := Option.bind_eq_some_iff.mp H
      obtain ⟨t198, A90, H⟩ := H
      replace H : ((word_Field.f k a1 0 (wrap64 (1 + (Int.tmod (Go.bits .and .i64 a2_1 65535) (wrap64 (32 - (Go.bits .and .i64 a2_0 31))))))).bind fun t199 => (if t198 = t199 then ((word_Field.f k a0 (Go.bits .and .i64 a2_0 31) (wrap64 (1 + (Int.tmod (Go.bits .and .i64 a2_1 65535) (wrap64 (32 - (Go.bits .and .i64 a2_0 31))))))).bind fun t200 => ((word_Put.f k t197 (Go.bits .and .i64 a2_0 31) (wrap64 (1 + (Int.tmod (Go.bits .and .i64 a2_1 65535) (wrap64 (32 - (Go.bits .and .i64 a2_0 31)))))) t200).bind fun t201 => (whetstonelaw01_WordBack.j0 k a0 a1 (wrap64 (1 + (Int.tmod (Go.bits .and .i64 a2_1 65535) (wrap64 (32 - (Go.bits .and .i64 a2_0 31)))))) (t201 != a0)))) else (whetstonelaw01_WordBack.j0 k a0 a1 (wrap64 (1 + (Int.tmod (Go.bits .and .i64 a2_1 65535) (wrap64 (32 - (Go.bits .and .i64 a2_0 31)))))) true))) = some r := H
      have A9 := Aside0.mk A90
      clear A90
      replace H := Option.bind_eq_some_iff.mp H
      obtain ⟨t199, A100, H⟩ := H
      replace H : (if t198 = t199 then ((word_Field.f k a0 (Go.bits .and .i64 a2_0 31) (wrap64 (1 + (Int.tmod (Go.bits .and .i64 a2_1 65535) (wrap64 (32 - (Go.bits .and .i64 a2_0 31))))))).bind fun t200 => ((word_Put.f k t197 (Go.bits .and .i64 a2_0 31) (wrap64 (1 + (Int.tmod (Go.bits .and .i64 a2_1 65535) (wrap64 (32 - (Go.bits .and .i64 a2_0 31)))))) t200).bind fun t201 => (whetstonelaw01_WordBack.j0 k a0 a1 (wrap64 (1 + (Int.tmod (Go.bits .and .i64 a2_1 65535) (wrap64 (32 - (Go.bits .and .i64 a2_0 31)))))) (t201 != a0)))) else (whetstonelaw01_WordBack.j0 k a0 a1 (wrap64 (1 + (Int.tmod (Go.bits .and .i64 a2_1 65535) (wrap64 (32 - (Go.bits .and .i64 a2_0 31)))))) true)) = some r := H
      have A10 := Aside0.mk A100
      clear A100
      by_cases c11 : t198 = t199
      · rw [if_pos c11] at H
        have c11b0 : (t198 == t199) = true := beq_iff_eq.mpr c11
        have c11b1 : (t198 != t199) = false := bne_eq_false_iff_eq.mpr c11
        clear c11
        (first | rw [c11b0] | (simp only [i64_w, i32_w]; rw [c11b0]) | skip)
        replace H := Option.bind_eq_some_iff.mp H
        obtain ⟨t200, A120, H⟩ := H
        replace H : ((word_Put.f k t197 (Go.bits .and .i64 a2_0 31) (wrap64 (1 + (Int.tmod (Go.bits .and .i64 a2_1 65535) (wrap64 (32 - (Go.bits .and .i64 a2_0 31)))))) t200).bind fun t201 => (whetstonelaw01_WordBack.j0 k a0 a1 (wrap64 (1 + (Int.tmod (Go.bits .and .i64 a2_1 65535) (wrap64 (32 - (Go.bits .and .i64 a2_0 31)))))) (t201 != a0))) = some r := H
        have A12 := Aside0.mk A120
        clear A120
        replace H := Option.bind_eq_some_iff.mp H
        obtain ⟨t201, A130, H⟩ := H
        replace H : (whetstonelaw01_WordBack.j0 k a0 a1 (wrap64 (1 + (Int.tmod (Go.bits .and .i64 a2_1 65535) (wrap64 (32 - (Go.bits .and .i64 a2_0 31)))))) (t201 != a0)) = some r := H
        have A13 := Aside0.mk A130
        clear A130
        have H' := Aside0.mk H
        clear H
        go_wp2_with (first | ((with_reducible refine gate_callee (f := 14) rfl ?_); refine goesL_ (some 28) rfl rfl Try.func14 (by kernel_rfl) rfl #[.int .u32 t197, .int .i64 (Go.bits .and .i64 a2_0 31), .int .i64 (wrap64 (1 + (Int.tmod (Go.bits .and .i64 a2_1 65535) (wrap64 (32 - (Go.bits .and .i64 a2_0 31))))))] rfl (by (try simp only [List.map_toArray, List.map_cons, List.map_nil]); first | done | rfl | (simp only [List.length_drop, List.length_take]; rfl)) ?_; (with_reducible refine (word_Field.calls k t197 (Go.bits .and .i64 a2_0 31) (wrap64 (1 + (Int.tmod (Go.bits .and .i64 a2_1 65535) (wrap64 (32 - (Go.bits .and .i64 a2_0 31)))))) t198 _ A9.out).mono ?_); rintro e w' ⟨rfl, ⟨nd, rfl⟩⟩; refine ⟨_, rfl, ?_⟩) | ((with_reducible refine gate_callee (f := 14) rfl ?_); refine goesL_ (some 31) rfl rfl Try.func14 (by kernel_rfl) rfl #[.int .u32 a1, .int .i64 0, .int .i64 (wrap64 (1 + (Int.tmod (Go.bits .and .i64 a2_1 65535) (wrap64 (32 - (Go.bits .and .i64 a2_0 31))))))] rfl (by (try simp only [List.map_toArray, List.map_cons, List.map_nil]); first | done | rfl | (simp only [List.length_drop, List.length_take]; rfl)) ?_; (with_reducible refine (word_Field.calls k a1 0 (wrap64 (1 + (Int.tmod (Go.bits .and .i64 a2_1 65535) (wrap64 (32 - (Go.bits .and .i64 a2_0 31)))))) t199 _ A10.out).mono ?_); rintro e w' ⟨rfl, ⟨nd, rfl⟩⟩; refine ⟨_, rfl, ?_⟩) | (go_at_call 14; (with_reducible refine (word_Field.calls k a0 (Go.bits .and .i64 a2_0 31) (wrap64 (1 + (Int.tmod (Go.bits .and .i64 a2_1 65535) (wrap64 (32 - (Go.bits .and .i64 a2_0 31)))))) t200 _ A12.out).mono ?_); rintro e w' ⟨rfl, ⟨nd, rfl⟩⟩) | (go_at_call 18; (with_reducible refine (word_Put.calls k t197 (Go.bits .and .i64 a2_0 31) (wrap64 (1 + (Int.tmod (Go.bits .and .i64 a2_1 65535) (wrap64 (32 - (Go.bits .and .i64 a2_0 31)))))) t200 t201 _ A13.out).mono ?_); rintro e w' ⟨rfl, ⟨nd, rfl⟩⟩))
        go_meet
        case rel => exact ⟨_, ((t201 != a0)), (by first | rfl | (simp; done) | (simp [*]; done)), H', ⟨by first | omega | exact Nat.le_refl _⟩, ⟨by (with_reducible repeat (first | refine blk_drewN ?_ _ | refine blk_drew ?_ | refine blk_alloc ?_ _)); exact BK196.out⟩, ⟨by repeat (first | (with_reducible first | exact HB.out | apply below_alloc | apply pw_below_drewN | apply below_drew1 | refine below_set ?_ GE196.out) | exact HB.out)⟩⟩
      · rw [if_neg c11] at H
        have c11b0 : (t198 == t199) = false := beq_eq_false_iff_ne.mpr c11
        have c11b1 : (t198 != t199) = true := bne_iff_ne.mpr c11
        (first | rw [c11b0] | (simp only [i64_w, i32_w]; rw [c11b0]) | skip)
        have H' := Aside0.mk H
        clear H
        go_wp2_with (first | ((with_reducible refine gate_callee (f := 14) rfl ?_); refine goesL_ (some 28) rfl rfl Try.func14 (by kernel_rfl) rfl #[.int .u32 t197, .int .i64 (Go.bits .and .i64 a2_0 31), .int .i64 (wrap64 (1 + (Int.tmod (Go.bits .and .i64 a2_1 65535) (wrap64 (32 - (Go.bits .and .i64 a2_0 31))))))] rfl (by (try simp only [List.map_toArray, List.map_cons, List.map_nil]); first | done | rfl | (simp only [List.length_drop, List.length_take]; rfl)) ?_; (with_reducible refine (word_Field.calls k t197 (Go.bits .and .i64 a2_0 31) (wrap64 (1 + (Int.tmod (Go.bits .and .i64 a2_1 65535) (wrap64 (32 - (Go.bits .and .i64 a2_0 31)))))) t198 _ A9.out).mono ?_); rintro e w' ⟨rfl, ⟨nd, rfl⟩⟩; refine ⟨_, rfl, ?_⟩) | ((with_reducible refine gate_callee (f := 14) rfl ?_); refine goesL_ (some 31) rfl rfl Try.func14 (by kernel_rfl) rfl #[.int .u32 a1, .int .i64 0, .int .i64 (wrap64 (1 + (Int.tmod (Go.bits .and .i64 a2_1 65535) (wrap64 (32 - (Go.bits .and .i64 a2_0 31))))))] rfl (by (try simp only [List.map_toArray, List.map_cons, List.map_nil]); first | done | rfl | (simp only [List.length_drop, List.length_take]; rfl)) ?_; (with_reducible refine (word_Field.calls k a1 0 (wrap64 (1 + (Int.tmod (Go.bits .and .i64 a2_1 65535) (wrap64 (32 - (Go.bits .and .i64 a2_0 31)))))) t199 _ A10.out).mono ?_); rintro e w' ⟨rfl, ⟨nd, rfl⟩⟩; refine ⟨_, rfl, ?_⟩))
        go_meet
        case rel => exact ⟨_, (true), (by first | rfl | (simp; done) | (simp [*]; done)), H', ⟨by first | omega | exact Nat.le_refl _⟩, ⟨by (with_reducible repeat (first | refine blk_drewN ?_ _ | refine blk_drew ?_ | refine blk_alloc ?_ _)); exact BK196.out⟩, ⟨by repeat (first | (with_reducible first | exact HB.out | apply below_alloc | apply pw_below_drewN | apply below_drew1 | refine below_set ?_ GE196.out) | exact HB.out)⟩⟩
    case rest =>
      clear HC6
      try clear c1
      try clear p2
      try clear c4
      try clear c4b0
      try clear c4b1
      try clear c5
      try clear p6
      try clear c11
      try clear c11b0
      try clear c11b1
      try clear hcz8_0
      try clear hcz8_1
      try clear hcz8_2
      try clear hfz8_0
      try clear hfz8_1
      try clear hfz8_2
      obtain ⟨kq, x44_5, rfl, HA, HJ5, BK196, HB⟩ := hcut
      cases kq with
      | zero => exact absurd HA.out (by simp [whetstonelaw01_WordBack.j0])
      | succ kj5 =>
        have H := HA.out
        clear HA
        simp only [whetstonelaw01_WordBack.j0] at H
        by_cases c14 : x44_5 = true
        · subst c14
          have H1 : (some false) = some r := by rw [if_pos rfl] at H; exact H
          clear H
          have H := H1
          clear H1
          obtain rfl := Option.some.inj H
          go_wp2
          go_ret
          exact ⟨by first | rfl | (simp [errW_none, errW_some] <;> rfl) | (simp [*, errW_none, errW_some] <;> rfl), by repeat (first | (with_reducible first | exact HB.out | apply below_alloc | apply pw_below_drewN | apply below_drew1 | refine below_set ?_ GE196.out) | exact HB.out)⟩
        · replace c14 := Bool.eq_false_iff.mpr c14
          subst c14
          have H1 : (if (wrap64 (1 + (Int.tmod (Go.bits .and .i64 a2_1 65535) (wrap64 (32 - (Go.bits .and .i64 a2_0 31)))))) < 32 then ((word_Sign.f kj5 a1 (wrap64 (1 + (Int.tmod (Go.bits .and .i64 a2_1 65535) (wrap64 (32 - (Go.bits .and .i64 a2_0 31))))))).bind fun t202 => ((word_Field.f kj5 a1 0 (wrap64 (1 + (Int.tmod (Go.bits .and .i64 a2_1 65535) (wrap64 (32 - (Go.bits .and .i64 a2_0 31))))))).bind fun t203 => ((word_Sign.f kj5 t203 (wrap64 (1 + (Int.tmod (Go.bits .and .i64 a2_1 65535) (wrap64 (32 - (Go.bits .and .i64 a2_0 31))))))).bind fun t204 => (if t202 = t204 then ((word_Field.f kj5 t202 0 (wrap64 (1 + (Int.tmod (Go.bits .and .i64 a2_1 65535) (wrap64 (32 - (Go.bits .and .i64 a2_0 31))))))).bind fun t205 => (whetstonelaw01_WordBack.j1 kj5 a0 (t205 != t203))) else (whetstonelaw01_WordBack.j1 kj5 a0 true))))) else (whetstonelaw01_WordBack.j1 kj5 a0 false)) = some r := by rw [if_neg (show ¬ (false = true) by decide)] at H; exact H
          clear H
          have H := H1
          clear H1
          have HC15 := Aside0.mk H
          clear H
          go_upto_region 6 with (fail)
          go_cut [68] (fun v68 wc => ∃ (kq : Nat) (x68_14 : Bool), v68 = .bool x68_14 ∧ Aside0 (whetstonelaw01_WordBack.j1 kq a0 x68_14 = some r) ∧ Aside0 (kq ≤ kj5) ∧ Aside0 (wc.heap[gb196]? = some (.cells #[.int .i64 a2_0, .int .i64 a2_1, .int .u32 a2_2] 24 (0, 0))) ∧ Aside0 (Below w.heap.size w wc))
          case first =>
            have H := HC15.out
            clear HC15
            by_cases c16 : (wrap64 (1 + (Int.tmod (Go.bits .and .i64 a2_1 65535) (wrap64 (32 - (Go.bits .and .i64 a2_0 31)))))) < 32
            · rw [if_pos c16] at H
              have c16b0 : decide ((wrap64 (1 + (Int.tmod (Go.bits .and .i64 a2_1 65535) (wrap64 (32 - (Go.bits .and .i64 a2_0 31)))))) < 32) = true := decide_eq_true c16
              clear c16
              (first | rw [c16b0] | (simp only [i64_w, i32_w]; rw [c16b0]) | skip)
              replace H := Option.bind_eq_some_iff.mp H
              obtain ⟨t202, A170, H⟩ := H
              replace H : ((word_Field.f kj5 a1 0 (wrap64 (1 + (Int.tmod (Go.bits .and .i64 a2_1 65535) (wrap64 (32 - (Go.bits .and .i64 a2_0 31))))))).bind fun t203 => ((word_Sign.f kj5 t203 (wrap64 (1 + (Int.tmod (Go.bits .and .i64 a2_1 65535) (wrap64 (32 - (Go.bits .and .i64 a2_0 31))))))).bind fun t204 => (if t202 = t204 then ((word_Field.f kj5 t202 0 (wrap64 (1 + (Int.tmod (Go.bits .and .i64 a2_1 65535) (wrap64 (32 - (Go.bits .and .i64 a2_0 31))))))).bind fun t205 => (whetstonelaw01_WordBack.j1 kj5 a0 (t205 != t203))) else (whetstonelaw01_WordBack.j1 kj5 a0 true)))) = some r := H
              have A17 := Aside0.mk A170
              clear A170
              replace H := Option.bind_eq_some_iff.mp H
              obtain ⟨t203, A180, H⟩ := H
              replace H : ((word_Sign.f kj5 t203 (wrap64 (1 + (Int.tmod (Go.bits .and .i64 a2_1 65535) (wrap64 (32 - (Go.bits .and .i64 a2_0 31))))))).bind fun t204 => (if t202 = t204 then ((word_Field.f kj5 t202 0 (wrap64 (1 + (Int.tmod (Go.bits .and .i64 a2_1 65535) (wrap64 (32 - (Go.bits .and .i64 a2_0 31))))))).bind fun t205 => (whetstonelaw01_WordBack.j1 kj5 a0 (t205 != t203))) else (whetstonelaw01_WordBack.j1 kj5 a0 true))) = some r := H
              have A18 := Aside0.mk A180
              clear A180
              replace H := Option.bind_eq_some_iff.mp H
              obtain ⟨t204, A190, H⟩ := H
              replace H : (if t202 = t204 then ((word_Field.f kj5 t202 0 (wrap64 (1 + (Int.tmod (Go.bits .and .i64 a2_1 65535) (wrap64 (32 - (Go.bits .and .i64 a2_0 31))))))).bind fun t205 => (whetstonelaw01_WordBack.j1 kj5 a0 (t205 != t203))) else (whetstonelaw01_WordBack.j1 kj5 a0 true)) = some r := H
              have A19 := Aside0.mk A190
              clear A190
              by_cases c20 : t202 = t204
              · rw [if_pos c20] at H
                have c20b0 : (t202 == t204) = true := beq_iff_eq.mpr c20
                have c20b1 : (t202 != t204) = false := bne_eq_false_iff_eq.mpr c20
                clear c20
                replace H := Option.bind_eq_some_iff.mp H
                obtain ⟨t205, A210, H⟩ := H
                replace H : (whetstonelaw01_WordBack.j1 kj5 a0 (t205 != t203)) = some r := H
                have A21 := Aside0.mk A210
                clear A210
                have H' := Aside0.mk H
                clear H
                go_wp2_with (first | (go_at_call 16; (with_reducible refine (word_Sign.calls kj5 a1 (wrap64 (1 + (Int.tmod (Go.bits .and .i64 a2_1 65535) (wrap64 (32 - (Go.bits .and .i64 a2_0 31)))))) t202 _ A17.out).mono ?_); rintro e w' ⟨rfl, ⟨nd, rfl⟩⟩) | (go_at_call 14; (with_reducible refine (word_Field.calls kj5 a1 0 (wrap64 (1 + (Int.tmod (Go.bits .and .i64 a2_1 65535) (wrap64 (32 - (Go.bits .and .i64 a2_0 31)))))) t203 _ A18.out).mono ?_); rintro e w' ⟨rfl, ⟨nd, rfl⟩⟩) | (go_at_call 16; (with_reducible refine (word_Sign.calls kj5 t203 (wrap64 (1 + (Int.tmod (Go.bits .and .i64 a2_1 65535) (wrap64 (32 - (Go.bits .and .i64 a2_0 31)))))) t204 _ A19.out).mono ?_); rintro e w' ⟨rfl, ⟨nd, rfl⟩⟩) | (go_at_call 14; (with_reducible refine (word_Field.calls kj5 t202 0 (wrap64 (1 + (Int.tmod (Go.bits .and .i64 a2_1 65535) (wrap64 (32 - (Go.bits .and .i64 a2_0 31)))))) t205 _ A21.out).mono ?_); rintro e w' ⟨rfl, ⟨nd, rfl⟩⟩))
                go_meet
                case rel => exact ⟨_, ((t205 != t203)), (by first | rfl | (simp; done) | (simp [*]; done)), H', ⟨by have := HJ5.out; first | omega | exact Nat.le_refl _⟩, ⟨by (with_reducible repeat (first | refine blk_drewN ?_ _ | refine blk_drew ?_ | refine blk_alloc ?_ _)); exact BK196.out⟩, ⟨by repeat (first | (with_reducible first | exact HB.out | apply below_alloc | apply pw_below_drewN | apply below_drew1 | refine below_set ?_ GE196.out) | exact HB.out)⟩⟩
              · rw [if_neg c20] at H
                have c20b0 : (t202 == t204) = false := beq_eq_false_iff_ne.mpr c20
                have c20b1 : (t202 != t204) = true := bne_iff_ne.mpr c20
                have H' := Aside0.mk H
                clear H
                go_wp2_with (first | (go_at_call 16; (with_reducible refine (word_Sign.calls kj5 a1 (wrap64 (1 + (Int.tmod (Go.bits .and .i64 a2_1 65535) (wrap64 (32 - (Go.bits .and .i64 a2_0 31)))))) t202 _ A17.out).mono ?_); rintro e w' ⟨rfl, ⟨nd, rfl⟩⟩) | (go_at_call 14; (with_reducible refine (word_Field.calls kj5 a1 0 (wrap64 (1 + (Int.tmod (Go.bits .and .i64 a2_1 65535) (wrap64 (32 - (Go.bits .and .i64 a2_0 31)))))) t203 _ A18.out).mono ?_); rintro e w' ⟨rfl, ⟨nd, rfl⟩⟩) | (go_at_call 16; (with_reducible refine (word_Sign.calls kj5 t203 (wrap64 (1 + (Int.tmod (Go.bits .and .i64 a2_1 65535) (wrap64 (32 - (Go.bits .and .i64 a2_0 31)))))) t204 _ A19.out).mono ?_); rintro e w' ⟨rfl, ⟨nd, rfl⟩⟩))
                go_meet
                case rel => exact ⟨_, (true), (by first | rfl | (simp; done) | (simp [*]; done)), H', ⟨by have := HJ5.out; first | omega | exact Nat.le_refl _⟩, ⟨by (with_reducible repeat (first | refine blk_drewN ?_ _ | refine blk_drew ?_ | refine blk_alloc ?_ _)); exact BK196.out⟩, ⟨by repeat (first | (with_reducible first | exact HB.out | apply below_alloc | apply pw_below_drewN | apply below_drew1 | refine below_set ?_ GE196.out) | exact HB.out)⟩⟩
            · rw [if_neg c16] at H
              have c16b0 : decide ((wrap64 (1 + (Int.tmod (Go.bits .and .i64 a2_1 65535) (wrap64 (32 - (Go.bits .and .i64 a2_0 31)))))) < 32) = false := decide_eq_false c16
              clear c16
              (first | rw [c16b0] | (simp only [i64_w, i32_w]; rw [c16b0]) | skip)
              have H' := Aside0.mk H
              clear H
              go_wp2
              go_meet
              case rel => exact ⟨_, (false), (by first | rfl | (simp; done) | (simp [*]; done)), H', ⟨by have := HJ5.out; first | omega | exact Nat.le_refl _⟩, ⟨by (with_reducible repeat (first | refine blk_drewN ?_ _ | refine blk_drew ?_ | refine blk_alloc ?_ _)); exact BK196.out⟩, ⟨by repeat (first | (with_reducible first | exact HB.out | apply below_alloc | apply pw_below_drewN | apply below_drew1 | refine below_set ?_ GE196.out) | exact HB.out)⟩⟩
          case rest =>
            clear HC15
            try clear c1
            try clear c2
            try clear p2
            try clear c4
            try clear c4b0
            try clear c4b1
            try clear c5
            try clear p6
            try clear c11
            try clear c11b0
            try clear c11b1
            try clear c14
            try clear c16
            try clear c16b0
            try clear c18
            try clear c20
            try clear c20b0
            try clear c20b1
            try clear hcz8_0
            try clear hcz8_1
            try clear hcz8_2
            try clear hfz8_0
            try clear hfz8_1
            try clear hfz8_2
            try clear p2
            try clear p6
            obtain ⟨kq, x68_14, rfl, HA, HJ14, BK196, HB⟩ := hcut
            cases kq with
            | zero => exact absurd HA.out (by simp [whetstonelaw01_WordBack.j1])
            | succ kj14 =>
              have H := HA.out
              clear HA
              simp only [whetstonelaw01_WordBack.j1] at H
              by_cases c22 : x68_14 = true
              · subst c22
                have H1 : (some false) = some r := by rw [if_pos rfl] at H; exact H
                clear H
                have H := H1
                clear H1
                obtain rfl := Option.some.inj H
                go_wp2
                go_ret
                exact ⟨by first | rfl | (simp [errW_none, errW_some] <;> rfl) | (simp [*, errW_none, errW_some] <;> rfl), by repeat (first | (with_reducible first | exact HB.out | apply below_alloc | apply pw_below_drewN | apply below_drew1 | refine below_set ?_ GE196.out) | exact HB.out)⟩
              · replace c22 := Bool.eq_false_iff.mpr c22
                subst c22
                have H1 : ((word_Field.f kj14 a0 0 32).bind fun t206 => (if t206 = a0 then ((whetstonelaw01_fixed.f kj14).bind fun t207 => (some t207)) else (some false))) = some r := by rw [if_neg (show ¬ (false = true) by decide)] at H; exact H
                clear H
                have H := H1
                clear H1
                replace H := Option.bind_eq_some_iff.mp H
                obtain ⟨t206, A230, H⟩ := H
                replace H : (if t206 = a0 then ((whetstonelaw01_fixed.f kj14).bind fun t207 => (some t207)) else (some false)) = some r := H
                have A23 := Aside0.mk A230
                clear A230
                by_cases c24 : t206 = a0
                · rw [if_pos c24] at H
                  have c24b0 : (t206 == a0) = true := beq_iff_eq.mpr c24
                  have c24b1 : (t206 != a0) = false := bne_eq_false_iff_eq.mpr c24
                  clear c24
                  replace H := Option.bind_eq_some_iff.mp H
                  obtain ⟨t207, A250, H⟩ := H
                  replace H : (some t207) = some r := H
                  have A25 := Aside0.mk A250
                  clear A250
                  obtain rfl := Option.some.inj H
                  go_wp2_with (first | ((with_reducible refine gate_callee (f := 14) rfl ?_); refine goesL_ (some 70) rfl rfl Try.func14 (by kernel_rfl) rfl #[.int .u32 a0, .int .i64 0, .int .i64 32] rfl (by (try simp only [List.map_toArray, List.map_cons, List.map_nil]); first | done | rfl | (simp only [List.length_drop, List.length_take]; rfl)) ?_; (with_reducible refine (word_Field.calls kj14 a0 0 32 t206 _ A23.out).mono ?_); rintro e w' ⟨rfl, ⟨nd, rfl⟩⟩; refine ⟨_, rfl, ?_⟩) | (go_at_call 13; (with_reducible refine (whetstonelaw01_fixed.calls kj14  t207 _ A25.out).mono ?_); rintro e w' ⟨rfl, ⟨nd, rfl⟩⟩))
                  go_ret
                  exact ⟨by first | rfl | (simp [errW_none, errW_some] <;> rfl) | (simp [*, errW_none, errW_some] <;> rfl), by repeat (first | (with_reducible first | exact HB.out | apply below_alloc | apply pw_below_drewN | apply below_drew1 | refine below_set ?_ GE196.out) | exact HB.out)⟩
                · rw [if_neg c24] at H
                  have c24b0 : (t206 == a0) = false := beq_eq_false_iff_ne.mpr c24
                  have c24b1 : (t206 != a0) = true := bne_iff_ne.mpr c24
                  obtain rfl := Option.some.inj H
                  go_wp2_with (first | ((with_reducible refine gate_callee (f := 14) rfl ?_); refine goesL_ (some 70) rfl rfl Try.func14 (by kernel_rfl) rfl #[.int .u32 a0, .int .i64 0, .int .i64 32] rfl (by (try simp only [List.map_toArray, List.map_cons, List.map_nil]); first | done | rfl | (simp only [List.length_drop, List.length_take]; rfl)) ?_; (with_reducible refine (word_Field.calls kj14 a0 0 32 t206 _ A23.out).mono ?_); rintro e w' ⟨rfl, ⟨nd, rfl⟩⟩; refine ⟨_, rfl, ?_⟩))
                  go_ret
                  exact ⟨by first | rfl | (simp [errW_none, errW_some] <;> rfl) | (simp [*, errW_none, errW_some] <;> rfl), by repeat (first | (with_reducible first | exact HB.out | apply below_alloc | apply pw_below_drewN | apply below_drew1 | refine below_set ?_ GE196.out) | exact HB.out)⟩

end Go.Proofs.Ytebgdkhfeegcfaa.Q
