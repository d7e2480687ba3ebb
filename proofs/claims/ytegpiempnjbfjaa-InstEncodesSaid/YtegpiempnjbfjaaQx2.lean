-- Written by this session's own driver (wip/tools/ownprint.py) over the kit's print: walks of the translated Go, each function once.
import Derived.Test.YtegpiempnjbfjaaQx0
namespace Go.Proofs.Ytegpiempnjbfjaa.Q
open Go.RowKit Go.Proofs.YtegpiempnjbfjaaW.PrintWords Go.Proofs.YtegpiempnjbfjaaW.PrintLast Go.Proofs.YtegpiempnjbfjaaW.PrintMore
attribute [local go_sem] max2_int min2_int max_two min_two max_three min_three max_four min_four   -- for this text's walks alone
attribute [local go_sem] imax_u32 imax_u8 isg_u32 isg_u8
set_option linter.unusedVariables false
set_option linter.unusedSimpArgs false

/-! ### inst_kinds: function 12 -/
theorem below_setRow {B : Nat} {w W : World} {g : Nat} (h : Below B w W) (hg : B ≤ g) (cs : Array Value) : Below B w (W.setRow g cs) :=
  ⟨h.os, h.tape, h.output, by rw [setRow_size]; exact h.size, fun i hi => (setRow_other W g i cs (by omega)).trans (h.block i hi)⟩
def kRows : List (Int × Int × Int × Int) := [(85, 55, 0, 0), (85, 23, 0, 0), (74, 111, 0, 0), (73, 103, 0, 0), (66, 99, 0, 0), (66, 99, 1, 0), (66, 99, 4, 0), (66, 99, 5, 0), (66, 99, 6, 0), (66, 99, 7, 0), (73, 3, 0, 0), (73, 3, 1, 0), (73, 3, 2, 0), (73, 3, 4, 0), (73, 3, 5, 0), (83, 35, 0, 0), (83, 35, 1, 0), (83, 35, 2, 0), (73, 19, 0, 0), (73, 19, 2, 0), (73, 19, 3, 0), (73, 19, 4, 0), (73, 19, 6, 0), (73, 19, 7, 0), (72, 19, 1, 0), (72, 19, 5, 0), (72, 19, 5, 32), (82, 51, 0, 0), (82, 51, 0, 32), (82, 51, 1, 0), (82, 51, 2, 0), (82, 51, 3, 0), (82, 51, 4, 0), (82, 51, 5, 0), (82, 51, 5, 32), (82, 51, 6, 0), (82, 51, 7, 0), (82, 51, 0, 1), (82, 51, 1, 1), (82, 51, 2, 1), (82, 51, 3, 1), (82, 51, 4, 1), (82, 51, 5, 1), (82, 51, 6, 1), (82, 51, 7, 1), (69, 115, 0, 0), (69, 115, 0, 0)]
def kRow (r : Int × Int × Int × Int) : List Value := [.int .u8 r.1, .int .u32 r.2.1, .int .u32 r.2.2.1, .int .u32 r.2.2.2]
def kCells : Array Value := (kRows.flatMap kRow).toArray
def kZero : Array Value := (List.replicate 47 [Value.int .u8 0, .int .u32 0, .int .u32 0, .int .u32 0]).flatten.toArray
theorem wpList_build_lit {P : Program} {ops : Array Oper} {rest : List Oper} {o : Oper} {a : Act} {w : World} {Q : Exit → Act → World → Prop} (hg : o.guard = none) (t : TypeId) (parts : Array (Nat × Operand)) (ho : o.op = .build t parts)
    (cells : Array Value) (h1 : P.built t (parts.map fun (i, x) => (i, a.eval x)).toList = some cells) (h : wpList P ops Q rest (a.put o.dst (.agg cells)) w) : wpList P ops Q (o :: rest) a w :=
  wpList_build hg t parts ho (by rw [h1]; rfl) (by rw [h1]; exact h)
set_option maxHeartbeats 800000 in
set_option maxRecDepth 1000000 in
theorem kinds_calls (w : World) : Calls Try.prog 12 #[] w fun e w' => e = .returned (.agg kCells) ∧ Below w.heap.size w w' := by
  have hz_ : ∀ w : World, (zeroValue 35).run Try.prog w = .ok (.agg kZero) w := fun _ => by as_aux_lemma => kernel_rfl
  go_enter Try.func12, Try.ntmps12
  go_upto_region 1 with (fail)
  apply wp_region_lit
  refine wpList_build_lit rfl 34 _ rfl (kRow (85, 55, 0, 0)).toArray (by as_aux_lemma => kernel_rfl) ?_
  refine wpList_build_lit rfl 34 _ rfl (kRow (85, 23, 0, 0)).toArray (by as_aux_lemma => kernel_rfl) ?_
  refine wpList_build_lit rfl 34 _ rfl (kRow (74, 111, 0, 0)).toArray (by as_aux_lemma => kernel_rfl) ?_
  refine wpList_build_lit rfl 34 _ rfl (kRow (73, 103, 0, 0)).toArray (by as_aux_lemma => kernel_rfl) ?_
  refine wpList_build_lit rfl 34 _ rfl (kRow (66, 99, 0, 0)).toArray (by as_aux_lemma => kernel_rfl) ?_
  refine wpList_build_lit rfl 34 _ rfl (kRow (66, 99, 1, 0)).toArray (by as_aux_lemma => kernel_rfl) ?_
  refine wpList_build_lit rfl 34 _ rfl (kRow (66, 99, 4, 0)).toArray (by as_aux_lemma => kernel_rfl) ?_
  refine wpList_build_lit rfl 34 _ rfl (kRow (66, 99, 5, 0)).toArray (by as_aux_lemma => kernel_rfl) ?_
  refine wpList_build_lit rfl 34 _ rfl (kRow (66, 99, 6, 0)).toArray (by as_aux_lemma => kernel_rfl) ?_
  refine wpList_build_lit rfl 34 _ rfl (kRow (66, 99, 7, 0)).toArray (by as_aux_lemma => kernel_rfl) ?_
  refine wpList_build_lit rfl 34 _ rfl (kRow (73, 3, 0, 0)).toArray (by as_aux_lemma => kernel_rfl) ?_
  refine wpList_build_lit rfl 34 _ rfl (kRow (73, 3, 1, 0)).toArray (by as_aux_lemma => kernel_rfl) ?_
  refine wpList_build_lit rfl 34 _ rfl (kRow (73, 3, 2, 0)).toArray (by as_aux_lemma => kernel_rfl) ?_
  refine wpList_build_lit rfl 34 _ rfl (kRow (73, 3, 4, 0)).toArray (by as_aux_lemma => kernel_rfl) ?_
  refine wpList_build_lit rfl 34 _ rfl (kRow (73, 3, 5, 0)).toArray (by as_aux_lemma => kernel_rfl) ?_
  refine wpList_build_lit rfl 34 _ rfl (kRow (83, 35, 0, 0)).toArray (by as_aux_lemma => kernel_rfl) ?_
  refine wpList_build_lit rfl 34 _ rfl (kRow (83, 35, 1, 0)).toArray (by as_aux_lemma => kernel_rfl) ?_
  refine wpList_build_lit rfl 34 _ rfl (kRow (83, 35, 2, 0)).toArray (by as_aux_lemma => kernel_rfl) ?_
  refine wpList_build_lit rfl 34 _ rfl (kRow (73, 19, 0, 0)).toArray (by as_aux_lemma => kernel_rfl) ?_
  refine wpList_build_lit rfl 34 _ rfl (kRow (73, 19, 2, 0)).toArray (by as_aux_lemma => kernel_rfl) ?_
  refine wpList_build_lit rfl 34 _ rfl (kRow (73, 19, 3, 0)).toArray (by as_aux_lemma => kernel_rfl) ?_
  refine wpList_build_lit rfl 34 _ rfl (kRow (73, 19, 4, 0)).toArray (by as_aux_lemma => kernel_rfl) ?_
  refine wpList_build_lit rfl 34 _ rfl (kRow (73, 19, 6, 0)).toArray (by as_aux_lemma => kernel_rfl) ?_
  refine wpList_build_lit rfl 34 _ rfl (kRow (73, 19, 7, 0)).toArray (by as_aux_lemma => kernel_rfl) ?_
  refine wpList_build_lit rfl 34 _ rfl (kRow (72, 19, 1, 0)).toArray (by as_aux_lemma => kernel_rfl) ?_
  refine wpList_build_lit rfl 34 _ rfl (kRow (72, 19, 5, 0)).toArray (by as_aux_lemma => kernel_rfl) ?_
  refine wpList_build_lit rfl 34 _ rfl (kRow (72, 19, 5, 32)).toArray (by as_aux_lemma => kernel_rfl) ?_
  refine wpList_build_lit rfl 34 _ rfl (kRow (82, 51, 0, 0)).toArray (by as_aux_lemma => kernel_rfl) ?_
  refine wpList_build_lit rfl 34 _ rfl (kRow (82, 51, 0, 32)).toArray (by as_aux_lemma => kernel_rfl) ?_
  refine wpList_build_lit rfl 34 _ rfl (kRow (82, 51, 1, 0)).toArray (by as_aux_lemma => kernel_rfl) ?_
  refine wpList_build_lit rfl 34 _ rfl (kRow (82, 51, 2, 0)).toArray (by as_aux_lemma => kernel_rfl) ?_
  refine wpList_build_lit rfl 34 _ rfl (kRow (82, 51, 3, 0)).toArray (by as_aux_lemma => kernel_rfl) ?_
  refine wpList_build_lit rfl 34 _ rfl (kRow (82, 51, 4, 0)).toArray (by as_aux_lemma => kernel_rfl) ?_
  refine wpList_build_lit rfl 34 _ rfl (kRow (82, 51, 5, 0)).toArray (by as_aux_lemma => kernel_rfl) ?_
  refine wpList_build_lit rfl 34 _ rfl (kRow (82, 51, 5, 32)).toArray (by as_aux_lemma => kernel_rfl) ?_
  refine wpList_build_lit rfl 34 _ rfl (kRow (82, 51, 6, 0)).toArray (by as_aux_lemma => kernel_rfl) ?_
  refine wpList_build_lit rfl 34 _ rfl (kRow (82, 51, 7, 0)).toArray (by as_aux_lemma => kernel_rfl) ?_
  refine wpList_build_lit rfl 34 _ rfl (kRow (82, 51, 0, 1)).toArray (by as_aux_lemma => kernel_rfl) ?_
  refine wpList_build_lit rfl 34 _ rfl (kRow (82, 51, 1, 1)).toArray (by as_aux_lemma => kernel_rfl) ?_
  refine wpList_build_lit rfl 34 _ rfl (kRow (82, 51, 2, 1)).toArray (by as_aux_lemma => kernel_rfl) ?_
  refine wpList_build_lit rfl 34 _ rfl (kRow (82, 51, 3, 1)).toArray (by as_aux_lemma => kernel_rfl) ?_
  refine wpList_build_lit rfl 34 _ rfl (kRow (82, 51, 4, 1)).toArray (by as_aux_lemma => kernel_rfl) ?_
  refine wpList_build_lit rfl 34 _ rfl (kRow (82, 51, 5, 1)).toArray (by as_aux_lemma => kernel_rfl) ?_
  refine wpList_build_lit rfl 34 _ rfl (kRow (82, 51, 6, 1)).toArray (by as_aux_lemma => kernel_rfl) ?_
  refine wpList_build_lit rfl 34 _ rfl (kRow (82, 51, 7, 1)).toArray (by as_aux_lemma => kernel_rfl) ?_
  refine wpList_build_lit rfl 34 _ rfl (kRow (69, 115, 0, 0)).toArray (by as_aux_lemma => kernel_rfl) ?_
  refine wpList_build_lit rfl 34 _ rfl (kRow (69, 115, 0, 0)).toArray (by as_aux_lemma => kernel_rfl) ?_
  refine wpList_build_lit rfl 35 _ rfl kCells (by as_aux_lemma => kernel_rfl) ?_
  refine wpList_store_row rfl 35 _ _ rfl w.heap.size kCells (by as_aux_lemma => kernel_rfl) (by as_aux_lemma => kernel_rfl) 35 _ (heap_alloc_new _ _) (by as_aux_lemma => kernel_rfl) (by as_aux_lemma => kernel_rfl) (by as_aux_lemma => kernel_rfl) ?_
  apply wpList_nil
  iterate 4 go_step
  refine bodyPost_ret (results_cell_row rfl _ _ w.heap.size 35 kCells (0, 0) _ (by as_aux_lemma => kernel_rfl) (setRow_heap _ _ _ _ _ _ (heap_alloc_new _ _)) Try.underlying35 rfl (by as_aux_lemma => kernel_rfl)) rfl ⟨rfl, ?_⟩
  exact below_setRow (below_alloc (Below.refl _ _) _) (Nat.le_refl _) _
def kGet (n : Nat) : Int × Int × Int × Int := kRows.getD n (0, 0, 0, 0)
theorem kinds_index (n : Nat) (hn : n < 47) (w : World) : (Instr.index 35 (.agg kCells) (.int .i64 (n : Int))).run Try.prog w = .ok (.agg (kRow (kGet n)).toArray) w := by
  rcases (show n = 0 ∨ n = 1 ∨ n = 2 ∨ n = 3 ∨ n = 4 ∨ n = 5 ∨ n = 6 ∨ n = 7 ∨ n = 8 ∨ n = 9 ∨ n = 10 ∨ n = 11 ∨ n = 12 ∨ n = 13 ∨ n = 14 ∨ n = 15 ∨ n = 16 ∨ n = 17 ∨ n = 18 ∨ n = 19 ∨ n = 20 ∨ n = 21 ∨ n = 22 ∨ n = 23 ∨ n = 24 ∨ n = 25 ∨ n = 26 ∨ n = 27 ∨ n = 28 ∨ n = 29 ∨ n = 30 ∨ n = 31 ∨ n = 32 ∨ n = 33 ∨ n = 34 ∨ n = 35 ∨ n = 36 ∨ n = 37 ∨ n = 38 ∨ n = 39 ∨ n = 40 ∨ n = 41 ∨ n = 42 ∨ n = 43 ∨ n = 44 ∨ n = 45 ∨ n = 46 by omega) with rfl | rfl | rfl | rfl | rfl | rfl | rfl | rfl | rfl | rfl | rfl | rfl | rfl | rfl | rfl | rfl | rfl | rfl | rfl | rfl | rfl | rfl | rfl | rfl | rfl | rfl | rfl | rfl | rfl | rfl | rfl | rfl | rfl | rfl | rfl | rfl | rfl | rfl | rfl | rfl | rfl | rfl | rfl | rfl | rfl | rfl | rfl
  all_goals (as_aux_lemma => kernel_rfl)
theorem row_field0 (a b c d : Int) (w : World) : (Instr.field 34 (.agg #[.int .u8 a, .int .u32 b, .int .u32 c, .int .u32 d]) 0).run Try.prog w = .ok (.int .u8 a) w := by kernel_rfl
theorem kGet_some (n : Nat) : ∃ a b c d, kGet n = (a, b, c, d) := ⟨_, _, _, _, rfl⟩
theorem box_cell (w : World) (n : Int) (t : TypeId) (k : IntKind) (nd : Nat) : ((w.alloc (.cells #[.int k n] t)).drewN nd).cell? ⟨w.heap.size, 0, none⟩ = some (.int k n) := by
  show (match (w.heap.push (.cells #[.int k n] t))[w.heap.size]? with | some (.cells c _ _) => if (none : Option _).isSome then none else c[0]? | _ => none) = _
  simp
theorem box_below (w : World) (o : Obj) (nd : Nat) : Below w.heap.size w ((w.alloc o).drewN nd) := pw_below_drewN (below_alloc (Below.refl _ _) _) _

/-! ### word_may: function 33 -/
def word_may.f (a0 : Int) (a1 : Int) : Option (Bool) := if a0 ≥ 0 then (if a0 < 32 then (if a1 ≥ 1 then (some (decide (a1 ≤ (wrap64 (32 - a0))))) else (some false)) else (some false)) else (some false)
set_option maxHeartbeats 8000000 in
set_option maxRecDepth 100000 in
theorem word_may.calls (a0 : Int) (a1 : Int) (r : Bool) (w : World) (h : word_may.f a0 a1 = some r) :
    Calls Try.prog 33 #[.int .i64 a0, .int .i64 a1] w fun e w' => e = .returned (.bool r) ∧ Drawn0 w w' := by
  have H : (if a0 ≥ 0 then (if a0 < 32 then (if a1 ≥ 1 then (some (decide (a1 ≤ (wrap64 (32 - a0))))) else (some false)) else (some false)) else (some false)) = some r := h
  clear h
  by_cases c3 : a0 ≥ 0
  · rw [if_pos c3] at H
    have c3b0 : decide (0 ≤ a0) = true := decide_eq_true c3
    clear c3
    by_cases c4 : a0 < 32
    · rw [if_pos c4] at H
      have c4b0 : decide (a0 < 32) = true := decide_eq_true c4
      clear c4
      by_cases c5 : a1 ≥ 1
      · rw [if_pos c5] at H
        have c5b0 : decide (1 ≤ a1) = true := decide_eq_true c5
        clear c5
        obtain rfl := Option.some.inj H
        go_enter Try.func33, Try.ntmps33
        go_wp2
        go_ret
        exact ⟨by first | rfl | (simp; done) | (simp [*]; done), by repeat (first | exact Drawn0.refl _ | apply Drawn0.step)⟩
      · rw [if_neg c5] at H
        have c5b0 : decide (1 ≤ a1) = false := decide_eq_false c5
        clear c5
        obtain rfl := Option.some.inj H
        go_enter Try.func33, Try.ntmps33
        go_wp2
        go_ret
        exact ⟨by first | rfl | (simp; done) | (simp [*]; done), by repeat (first | exact Drawn0.refl _ | apply Drawn0.step)⟩
    · rw [if_neg c4] at H
      have c4b0 : decide (a0 < 32) = false := decide_eq_false c4
      clear c4
      obtain rfl := Option.some.inj H
      go_enter Try.func33, Try.ntmps33
      go_wp2
      go_ret
      exact ⟨by first | rfl | (simp; done) | (simp [*]; done), by repeat (first | exact Drawn0.refl _ | apply Drawn0.step)⟩
  · rw [if_neg c3] at H
    have c3b0 : decide (0 ≤ a0) = false := decide_eq_false c3
    clear c3
    obtain rfl := Option.some.inj H
    go_enter Try.func33, Try.ntmps33
    go_wp2
    go_ret
    exact ⟨by first | rfl | (simp; done) | (simp [*]; done), by repeat (first | exact Drawn0.refl _ | apply Drawn0.step)⟩

/-! ### word_mask: function 34 -/
def word_mask.l0 : Nat → Int → Int → Int → Option (Int)
  | 0, _, _, _ => none
  | k + 1, x3, x4, x5 => if x5 < x4 then (word_mask.l0 k (Go.bits .or .u32 ((x3 * 2) % 4294967296) 1) x4 (wrap64 (x5 + 1))) else (some x3)
def word_mask.f (k : Nat) (a0 : Int) : Option (Int) := word_mask.l0 k 0 a0 0
theorem word_mask.mono_l : ∀ k, (∀ y0 y1 y2, LeO (word_mask.l0 k y0 y1 y2) (word_mask.l0 (k + 1) y0 y1 y2))
  | 0 => fun _ _ _ r h => by simp [word_mask.l0] at h
  | k + 1 => by
    have ih0 := word_mask.mono_l k
    · intro y0 y1 y2
      unfold word_mask.l0
      repeat' first
      | (with_reducible exact ih0 _ _ _)
      | (with_reducible exact LeO.refl _)
      | (with_reducible exact LeO.none _)
      | (with_reducible refine LeO.ite ?_ ?_)
      | (with_reducible refine LeO.bind ?_ (fun _ => ?_))
      | exact ih0 _ _ _
      | exact LeO.none _
      | refine LeO.ite ?_ ?_
      | refine LeO.bind ?_ (fun _ => ?_)
theorem word_mask.mono : ∀ a0 k, LeO (word_mask.f k a0) (word_mask.f (k + 1) a0) := by
  intro a0 k
  have ih0 := word_mask.mono_l k
  unfold word_mask.f
  repeat' first
      | (with_reducible exact ih0 _ _ _)
      | (with_reducible exact LeO.refl _)
      | (with_reducible exact LeO.none _)
      | (with_reducible refine LeO.ite ?_ ?_)
      | (with_reducible refine LeO.bind ?_ (fun _ => ?_))
      | exact ih0 _ _ _
      | exact LeO.none _
      | refine LeO.ite ?_ ?_
      | refine LeO.bind ?_ (fun _ => ?_)
set_option maxHeartbeats 8000000 in
set_option maxRecDepth 100000 in
theorem word_mask.calls (k : Nat) (a0 : Int) (r : Int) (w : World) (h : word_mask.f k a0 = some r) :
    Calls Try.prog 34 #[.int .i64 a0] w fun e w' => e = .returned (.int .u32 r) ∧ Drawn0 w w' := by
  have H : (word_mask.l0 k 0 a0 0) = some r := h
  clear h
  have H' := Aside0.mk H
  clear H
  go_enter Try.func34, Try.ntmps34
  go_wp2
  go_loopg [3, 5] k (fun kq v3 v5 w' => ∃ (x3_1 : Int) (x5_1 : Int), v3 = .int .u32 x3_1 ∧ v5 = .int .i64 x5_1 ∧ Aside0 (word_mask.l0 kq x3_1 a0 x5_1 = some r) ∧ Aside0 (kq ≤ k) ∧ Drawn0 w w')
  case atStart => exact ⟨(0), (0), (by first | rfl | (simp; done) | (simp [*]; done)), (by first | rfl | (simp; done) | (simp [*]; done)), H', ⟨Nat.le_refl _⟩, by repeat (first | exact Drawn0.refl _ | apply Drawn0.step)⟩
  case round =>
    clear H'
    obtain ⟨x3_1, x5_1, rfl, rfl, HA, HK1, ⟨m1, rfl⟩⟩ := hrel
    cases gk with
    | zero => exact absurd HA.out (by simp [word_mask.l0])
    | succ k1 =>
      have H := HA.out
      clear HA
      simp only [word_mask.l0] at H
      by_cases c2 : x5_1 < a0
      · rw [if_pos c2] at H
        have c2b0 : decide (x5_1 < a0) = true := decide_eq_true c2
        clear c2
        have H' := Aside0.mk H
        clear H
        go_wp2
        go_roundg k1
        case measure => have := HK1.out; omega
        case rel => exact ⟨(Go.bits .or .u32 ((x3_1 * 2) % 4294967296) 1), (wrap64 (x5_1 + 1)), (by first | rfl | (simp; done) | (simp [*]; done)), (by first | rfl | (simp; done) | (simp [*]; done)), H', ⟨by have := HK1.out; omega⟩, by repeat (first | exact Drawn0.refl _ | apply Drawn0.step)⟩
      · rw [if_neg c2] at H
        have c2b0 : decide (x5_1 < a0) = false := decide_eq_false c2
        clear c2
        obtain rfl := Option.some.inj H
        go_wp2
        go_ret
        exact ⟨by first | rfl | (simp; done) | (simp [*]; done), by repeat (first | exact Drawn0.refl _ | apply Drawn0.step)⟩

/-! ### word_Field: function 16 -/
def word_Field.f (k : Nat) (a0 : Int) (a1 : Int) (a2 : Int) : Option (Int) := (word_may.f a1 a2).bind fun t101 => (if t101 = true then (if 0 ≤ a1 then ((word_mask.f k a2).bind fun t102 => (some (Go.bits .and .u32 (shr .u32 a0 a1) t102))) else (none)) else (some 0))
theorem word_Field.mono : ∀ a0 a1 a2 k, LeO (word_Field.f k a0 a1 a2) (word_Field.f (k + 1) a0 a1 a2) := by
  intro a0 a1 a2 k
  unfold word_Field.f
  repeat' first
      | (with_reducible exact word_mask.mono _ _)
      | (with_reducible exact LeO.refl _)
      | (with_reducible exact LeO.none _)
      | (with_reducible refine LeO.ite ?_ ?_)
      | (with_reducible refine LeO.bind ?_ (fun _ => ?_))
      | exact word_mask.mono _ _
      | exact LeO.none _
      | refine LeO.ite ?_ ?_
      | refine LeO.bind ?_ (fun _ => ?_)
set_option maxHeartbeats 8000000 in
set_option maxRecDepth 100000 in
theorem word_Field.calls (k : Nat) (a0 : Int) (a1 : Int) (a2 : Int) (r : Int) (w : World) (h : word_Field.f k a0 a1 a2 = some r) :
    Calls Try.prog 16 #[.int .u32 a0, .int .i64 a1, .int .i64 a2] w fun e w' => e = .returned (.int .u32 r) ∧ Drawn0 w w' := by
  have H : ((word_may.f a1 a2).bind fun t101 => (if t101 = true then (if 0 ≤ a1 then ((word_mask.f k a2).bind fun t102 => (some (Go.bits .and .u32 (shr .u32 a0 a1) t102))) else (none)) else (some 0))) = some r := h
  clear h
  replace H := Option.bind_eq_some_iff.mp H
  obtain ⟨t101, A40, H⟩ := H
  replace H : (if t101 = true then (if 0 ≤ a1 then ((word_mask.f k a2).bind fun t102 => (some (Go.bits .and .u32 (shr .u32 a0 a1) t102))) else (none)) else (some 0)) = some r := H
  have A4 := Aside0.mk A40
  clear A40
  by_cases c5 : t101 = true
  · subst c5
    have H1 : (if 0 ≤ a1 then ((word_mask.f k a2).bind fun t102 => (some (Go.bits .and .u32 (shr .u32 a0 a1) t102))) else (none)) = some r := by rw [if_pos rfl] at H; exact H
    clear H
    have H := H1
    clear H1
    by_cases c6 : 0 ≤ a1
    · rw [if_pos c6] at H
      have c6b0 := eq_true c6
      have c6b1 : decide (0 ≤ a1) = true := decide_eq_true c6
      clear c6
      obtain ⟨ji7, hji7⟩ : ∃ j_ : Int, (shr .u32 a0 a1) = j_ := ⟨_, rfl⟩
      replace H : ((word_mask.f k a2).bind fun t102 => (some (Go.bits .and .u32 (ji7) t102))) = some r := by first | (rw [hji7] at H; exact H) | (simp only [hji7] at H ⊢; exact H)
      (try rw [hji7] at A4)
      have hji7_ : (a0 / 2 ^ min a1.toNat 32) = ji7 := hji7
      have hji7z : a1 ≤ 32 → (a0 / 2 ^ a1.toNat) = ji7 := shr_small hji7
      replace H := Option.bind_eq_some_iff.mp H
      obtain ⟨t102, A80, H⟩ := H
      replace H : (some (Go.bits .and .u32 (ji7) t102)) = some r := H
      have A8 := Aside0.mk A80
      clear A80
      obtain rfl := Option.some.inj H
      go_enter Try.func16, Try.ntmps16
      go_wp2_with (first | (go_at_call 33; (with_reducible refine (word_may.calls a1 a2 true _ A4.out).mono ?_); rintro e w' ⟨rfl, ⟨nd, rfl⟩⟩; (try first | exact ⟨rfl, _, World.drewN_drewN _ _ _⟩ | exact ⟨rfl, _, Eq.trans (World.drewN_drewN _ _ _) (congrArg (World.drewN _) (Nat.add_assoc _ _ _))⟩)) | (go_at_call 34; (with_reducible refine (word_mask.calls k a2 t102 _ A8.out).mono ?_); rintro e w' ⟨rfl, ⟨nd, rfl⟩⟩; (try first | exact ⟨rfl, _, World.drewN_drewN _ _ _⟩ | exact ⟨rfl, _, Eq.trans (World.drewN_drewN _ _ _) (congrArg (World.drewN _) (Nat.add_assoc _ _ _))⟩)))
      repeat (go_quiet (first | (go_at_call 33; (with_reducible refine (word_may.calls a1 a2 true _ A4.out).mono ?_); rintro e w' ⟨rfl, ⟨nd, rfl⟩⟩; (try first | exact ⟨rfl, _, World.drewN_drewN _ _ _⟩ | exact ⟨rfl, _, Eq.trans (World.drewN_drewN _ _ _) (congrArg (World.drewN _) (Nat.add_assoc _ _ _))⟩)) | (go_at_call 34; (with_reducible refine (word_mask.calls k a2 t102 _ A8.out).mono ?_); rintro e w' ⟨rfl, ⟨nd, rfl⟩⟩; (try first | exact ⟨rfl, _, World.drewN_drewN _ _ _⟩ | exact ⟨rfl, _, Eq.trans (World.drewN_drewN _ _ _) (congrArg (World.drewN _) (Nat.add_assoc _ _ _))⟩))); try go_wp2_with (first | (go_at_call 33; (with_reducible refine (word_may.calls a1 a2 true _ A4.out).mono ?_); rintro e w' ⟨rfl, ⟨nd, rfl⟩⟩; (try first | exact ⟨rfl, _, World.drewN_drewN _ _ _⟩ | exact ⟨rfl, _, Eq.trans (World.drewN_drewN _ _ _) (congrArg (World.drewN _) (Nat.add_assoc _ _ _))⟩)) | (go_at_call 34; (with_reducible refine (word_mask.calls k a2 t102 _ A8.out).mono ?_); rintro e w' ⟨rfl, ⟨nd, rfl⟩⟩; (try first | exact ⟨rfl, _, World.drewN_drewN _ _ _⟩ | exact ⟨rfl, _, Eq.trans (World.drewN_drewN _ _ _) (congrArg (World.drewN _) (Nat.add_assoc _ _ _))⟩))))
      go_ret
      exact ⟨by first | rfl | (simp; done) | (simp only [← hji7] <;> (first | rfl | simp)) | (simp [*]; done), by repeat (first | exact Drawn0.refl _ | apply Drawn0.step)⟩
    · rw [if_neg c6] at H
      exact absurd H (by simp)
  · replace c5 := Bool.eq_false_iff.mpr c5
    subst c5
    have H1 : (some 0) = some r := by rw [if_neg (show ¬ (false = true) by decide)] at H; exact H
    clear H
    have H := H1
    clear H1
    obtain rfl := Option.some.inj H
    go_enter Try.func16, Try.ntmps16
    go_wp2_with (first | (go_at_call 33; (with_reducible refine (word_may.calls a1 a2 false _ A4.out).mono ?_); rintro e w' ⟨rfl, ⟨nd, rfl⟩⟩; (try first | exact ⟨rfl, _, World.drewN_drewN _ _ _⟩ | exact ⟨rfl, _, Eq.trans (World.drewN_drewN _ _ _) (congrArg (World.drewN _) (Nat.add_assoc _ _ _))⟩)))
    repeat (go_quiet (first | (go_at_call 33; (with_reducible refine (word_may.calls a1 a2 false _ A4.out).mono ?_); rintro e w' ⟨rfl, ⟨nd, rfl⟩⟩; (try first | exact ⟨rfl, _, World.drewN_drewN _ _ _⟩ | exact ⟨rfl, _, Eq.trans (World.drewN_drewN _ _ _) (congrArg (World.drewN _) (Nat.add_assoc _ _ _))⟩))); try go_wp2_with (first | (go_at_call 33; (with_reducible refine (word_may.calls a1 a2 false _ A4.out).mono ?_); rintro e w' ⟨rfl, ⟨nd, rfl⟩⟩; (try first | exact ⟨rfl, _, World.drewN_drewN _ _ _⟩ | exact ⟨rfl, _, Eq.trans (World.drewN_drewN _ _ _) (congrArg (World.drewN _) (Nat.add_assoc _ _ _))⟩))))
    go_ret
    exact ⟨by first | rfl | (simp; done) | (simp [*]; done), by repeat (first | exact Drawn0.refl _ | apply Drawn0.step)⟩

end Go.Proofs.Ytegpiempnjbfjaa.Q
