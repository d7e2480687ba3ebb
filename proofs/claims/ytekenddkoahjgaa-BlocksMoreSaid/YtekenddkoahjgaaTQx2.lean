import Derived.Test.YtekenddkoahjgaaTQx0
namespace Go.Proofs.Ytekenddkoahjgaa.Q
open Go.RowKit Go.Proofs.YtekenddkoahjgaaW.PrintWords Go.Proofs.YtekenddkoahjgaaW.PrintLast Go.Proofs.YtekenddkoahjgaaW.PrintMore
attribute [local go_sem] max2_int min2_int max_two min_two max_three min_three max_four min_four   -- for this text's walks alone
attribute [local go_sem] imax_u32 imax_u8 isg_u32 isg_u8
set_option linter.unusedVariables false
set_option linter.unusedSimpArgs false
theorem below_setRow {B : Nat} {w W : World} {g : Nat} (h : Below B w W) (hg : B ≤ g) (cs : Array Value) : Below B w (W.setRow g cs) :=
 ⟨h.os, h.tape, h.output, by rw [setRow_size]; exact h.size, fun i hi => (setRow_other W g i cs (by omega)).trans (h.block i hi)⟩
def kRows : List (Int × Int × Int × Int) := [(85, 55, 0, 0), (85, 23, 0, 0), (74, 111, 0, 0), (73, 103, 0, 0), (66, 99, 0, 0), (66, 99, 1, 0), (66, 99, 4, 0), (66, 99, 5, 0), (66, 99, 6, 0), (66, 99, 7, 0), (73, 3, 0, 0), (73, 3, 1, 0), (73, 3, 2, 0), (73, 3, 4, 0), (73, 3, 5, 0), (83, 35, 0, 0), (83, 35, 1, 0), (83, 35, 2, 0), (73, 19, 0, 0), (73, 19, 2, 0), (73, 19, 3, 0), (73, 19, 4, 0), (73, 19, 6, 0), (73, 19, 7, 0), (72, 19, 1, 0), (72, 19, 5, 0), (72, 19, 5, 32), (82, 51, 0, 0), (82, 51, 0, 32), (82, 51, 1, 0), (82, 51, 2, 0), (82, 51, 3, 0), (82, 51, 4, 0), (82, 51, 5, 0), (82, 51, 5, 32), (82, 51, 6, 0), (82, 51, 7, 0), (82, 51, 0, 1), (82, 51, 1, 1), (82, 51, 2, 1), (82, 51, 3, 1), (82, 51, 4, 1), (82, 51, 5, 1), (82, 51, 6, 1), (82, 51, 7, 1), (69, 115, 0, 0), (69, 115, 0, 0)]
def kRow (r : Int × Int × Int × Int) : List Value := [.int .u8 r.1, .int .u32 r.2.1, .int .u32 r.2.2.1, .int .u32 r.2.2.2]
def kCells : Array Value := (kRows.flatMap kRow).toArray
def kZero : Array Value := (List.replicate 47 [Value.int .u8 0, .int .u32 0, .int .u32 0, .int .u32 0]).flatten.toArray
theorem wpList_build_lit {P : Program} {ops : Array Oper} {rest : List Oper} {o : Oper} {a : Act} {w : World} {Q : Exit → Act → World → Prop} (hg : o.guard = none) (t : TypeId) (parts : Array (Nat × Operand)) (ho : o.op = .build t parts)
  (cells : Array Value) (h1 : P.built t (parts.map fun (i, x) => (i, a.eval x)).toList = some cells) (h : wpList P ops Q rest (a.put o.dst (.agg cells)) w) : wpList P ops Q (o :: rest) a w :=
 wpList_build hg t parts ho (by rw [h1]; rfl) (by rw [h1]; exact h)
set_option maxHeartbeats 800000 in
set_option maxRecDepth 1000000 in
theorem kinds_calls (w : World) : Calls Try.prog 46 #[] w fun e w' => e = .returned (.agg kCells) ∧ Below w.heap.size w w' := by
 have hz_ : ∀ w : World, (zeroValue 75).run Try.prog w = .ok (.agg kZero) w := fun _ => by as_aux_lemma => kernel_rfl
 go_enter Try.func46, Try.ntmps46
 go_upto_region 1 with (fail)
 apply wp_region_lit
 refine wpList_build_lit rfl 74 _ rfl (kRow (85, 55, 0, 0)).toArray (by as_aux_lemma => kernel_rfl) ?_
 refine wpList_build_lit rfl 74 _ rfl (kRow (85, 23, 0, 0)).toArray (by as_aux_lemma => kernel_rfl) ?_
 refine wpList_build_lit rfl 74 _ rfl (kRow (74, 111, 0, 0)).toArray (by as_aux_lemma => kernel_rfl) ?_
 refine wpList_build_lit rfl 74 _ rfl (kRow (73, 103, 0, 0)).toArray (by as_aux_lemma => kernel_rfl) ?_
 refine wpList_build_lit rfl 74 _ rfl (kRow (66, 99, 0, 0)).toArray (by as_aux_lemma => kernel_rfl) ?_
 refine wpList_build_lit rfl 74 _ rfl (kRow (66, 99, 1, 0)).toArray (by as_aux_lemma => kernel_rfl) ?_
 refine wpList_build_lit rfl 74 _ rfl (kRow (66, 99, 4, 0)).toArray (by as_aux_lemma => kernel_rfl) ?_
 refine wpList_build_lit rfl 74 _ rfl (kRow (66, 99, 5, 0)).toArray (by as_aux_lemma => kernel_rfl) ?_
 refine wpList_build_lit rfl 74 _ rfl (kRow (66, 99, 6, 0)).toArray (by as_aux_lemma => kernel_rfl) ?_
 refine wpList_build_lit rfl 74 _ rfl (kRow (66, 99, 7, 0)).toArray (by as_aux_lemma => kernel_rfl) ?_
 refine wpList_build_lit rfl 74 _ rfl (kRow (73, 3, 0, 0)).toArray (by as_aux_lemma => kernel_rfl) ?_
 refine wpList_build_lit rfl 74 _ rfl (kRow (73, 3, 1, 0)).toArray (by as_aux_lemma => kernel_rfl) ?_
 refine wpList_build_lit rfl 74 _ rfl (kRow (73, 3, 2, 0)).toArray (by as_aux_lemma => kernel_rfl) ?_
 refine wpList_build_lit rfl 74 _ rfl (kRow (73, 3, 4, 0)).toArray (by as_aux_lemma => kernel_rfl) ?_
 refine wpList_build_lit rfl 74 _ rfl (kRow (73, 3, 5, 0)).toArray (by as_aux_lemma => kernel_rfl) ?_
 refine wpList_build_lit rfl 74 _ rfl (kRow (83, 35, 0, 0)).toArray (by as_aux_lemma => kernel_rfl) ?_
 refine wpList_build_lit rfl 74 _ rfl (kRow (83, 35, 1, 0)).toArray (by as_aux_lemma => kernel_rfl) ?_
 refine wpList_build_lit rfl 74 _ rfl (kRow (83, 35, 2, 0)).toArray (by as_aux_lemma => kernel_rfl) ?_
 refine wpList_build_lit rfl 74 _ rfl (kRow (73, 19, 0, 0)).toArray (by as_aux_lemma => kernel_rfl) ?_
 refine wpList_build_lit rfl 74 _ rfl (kRow (73, 19, 2, 0)).toArray (by as_aux_lemma => kernel_rfl) ?_
 refine wpList_build_lit rfl 74 _ rfl (kRow (73, 19, 3, 0)).toArray (by as_aux_lemma => kernel_rfl) ?_
 refine wpList_build_lit rfl 74 _ rfl (kRow (73, 19, 4, 0)).toArray (by as_aux_lemma => kernel_rfl) ?_
 refine wpList_build_lit rfl 74 _ rfl (kRow (73, 19, 6, 0)).toArray (by as_aux_lemma => kernel_rfl) ?_
 refine wpList_build_lit rfl 74 _ rfl (kRow (73, 19, 7, 0)).toArray (by as_aux_lemma => kernel_rfl) ?_
 refine wpList_build_lit rfl 74 _ rfl (kRow (72, 19, 1, 0)).toArray (by as_aux_lemma => kernel_rfl) ?_
 refine wpList_build_lit rfl 74 _ rfl (kRow (72, 19, 5, 0)).toArray (by as_aux_lemma => kernel_rfl) ?_
 refine wpList_build_lit rfl 74 _ rfl (kRow (72, 19, 5, 32)).toArray (by as_aux_lemma => kernel_rfl) ?_
 refine wpList_build_lit rfl 74 _ rfl (kRow (82, 51, 0, 0)).toArray (by as_aux_lemma => kernel_rfl) ?_
 refine wpList_build_lit rfl 74 _ rfl (kRow (82, 51, 0, 32)).toArray (by as_aux_lemma => kernel_rfl) ?_
 refine wpList_build_lit rfl 74 _ rfl (kRow (82, 51, 1, 0)).toArray (by as_aux_lemma => kernel_rfl) ?_
 refine wpList_build_lit rfl 74 _ rfl (kRow (82, 51, 2, 0)).toArray (by as_aux_lemma => kernel_rfl) ?_
 refine wpList_build_lit rfl 74 _ rfl (kRow (82, 51, 3, 0)).toArray (by as_aux_lemma => kernel_rfl) ?_
 refine wpList_build_lit rfl 74 _ rfl (kRow (82, 51, 4, 0)).toArray (by as_aux_lemma => kernel_rfl) ?_
 refine wpList_build_lit rfl 74 _ rfl (kRow (82, 51, 5, 0)).toArray (by as_aux_lemma => kernel_rfl) ?_
 refine wpList_build_lit rfl 74 _ rfl (kRow (82, 51, 5, 32)).toArray (by as_aux_lemma => kernel_rfl) ?_
 refine wpList_build_lit rfl 74 _ rfl (kRow (82, 51, 6, 0)).toArray (by as_aux_lemma => kernel_rfl) ?_
 refine wpList_build_lit rfl 74 _ rfl (kRow (82, 51, 7, 0)).toArray (by as_aux_lemma => kernel_rfl) ?_
 refine wpList_build_lit rfl 74 _ rfl (kRow (82, 51, 0, 1)).toArray (by as_aux_lemma => kernel_rfl) ?_
 refine wpList_build_lit rfl 74 _ rfl (kRow (82, 51, 1, 1)).toArray (by as_aux_lemma => kernel_rfl) ?_
 refine wpList_build_lit rfl 74 _ rfl (kRow (82, 51, 2, 1)).toArray (by as_aux_lemma => kernel_rfl) ?_
 refine wpList_build_lit rfl 74 _ rfl (kRow (82, 51, 3, 1)).toArray (by as_aux_lemma => kernel_rfl) ?_
 refine wpList_build_lit rfl 74 _ rfl (kRow (82, 51, 4, 1)).toArray (by as_aux_lemma => kernel_rfl) ?_
 refine wpList_build_lit rfl 74 _ rfl (kRow (82, 51, 5, 1)).toArray (by as_aux_lemma => kernel_rfl) ?_
 refine wpList_build_lit rfl 74 _ rfl (kRow (82, 51, 6, 1)).toArray (by as_aux_lemma => kernel_rfl) ?_
 refine wpList_build_lit rfl 74 _ rfl (kRow (82, 51, 7, 1)).toArray (by as_aux_lemma => kernel_rfl) ?_
 refine wpList_build_lit rfl 74 _ rfl (kRow (69, 115, 0, 0)).toArray (by as_aux_lemma => kernel_rfl) ?_
 refine wpList_build_lit rfl 74 _ rfl (kRow (69, 115, 0, 0)).toArray (by as_aux_lemma => kernel_rfl) ?_
 refine wpList_build_lit rfl 75 _ rfl kCells (by as_aux_lemma => kernel_rfl) ?_
 refine wpList_store_row rfl 75 _ _ rfl w.heap.size kCells (by as_aux_lemma => kernel_rfl) (by as_aux_lemma => kernel_rfl) 75 _ (heap_alloc_new _ _) (by as_aux_lemma => kernel_rfl) (by as_aux_lemma => kernel_rfl) (by as_aux_lemma => kernel_rfl) ?_
 apply wpList_nil
 iterate 4 go_step
 refine bodyPost_ret (results_cell_row rfl _ _ w.heap.size 75 kCells (0, 0) _ (by as_aux_lemma => kernel_rfl) (setRow_heap _ _ _ _ _ _ (heap_alloc_new _ _)) Try.underlying75 rfl (by as_aux_lemma => kernel_rfl)) rfl ⟨rfl, ?_⟩
 exact below_setRow (below_alloc (Below.refl _ _) _) (Nat.le_refl _) _
def kGet (n : Nat) : Int × Int × Int × Int := kRows.getD n (0, 0, 0, 0)
theorem kinds_index (n : Nat) (hn : n < 47) (w : World) : (Instr.index 75 (.agg kCells) (.int .i64 (n : Int))).run Try.prog w = .ok (.agg (kRow (kGet n)).toArray) w := by
 rcases (show n = 0 ∨ n = 1 ∨ n = 2 ∨ n = 3 ∨ n = 4 ∨ n = 5 ∨ n = 6 ∨ n = 7 ∨ n = 8 ∨ n = 9 ∨ n = 10 ∨ n = 11 ∨ n = 12 ∨ n = 13 ∨ n = 14 ∨ n = 15 ∨ n = 16 ∨ n = 17 ∨ n = 18 ∨ n = 19 ∨ n = 20 ∨ n = 21 ∨ n = 22 ∨ n = 23 ∨ n = 24 ∨ n = 25 ∨ n = 26 ∨ n = 27 ∨ n = 28 ∨ n = 29 ∨ n = 30 ∨ n = 31 ∨ n = 32 ∨ n = 33 ∨ n = 34 ∨ n = 35 ∨ n = 36 ∨ n = 37 ∨ n = 38 ∨ n = 39 ∨ n = 40 ∨ n = 41 ∨ n = 42 ∨ n = 43 ∨ n = 44 ∨ n = 45 ∨ n = 46 by omega) with rfl | rfl | rfl | rfl | rfl | rfl | rfl | rfl | rfl | rfl | rfl | rfl | rfl | rfl | rfl | rfl | rfl | rfl | rfl | rfl | rfl | rfl | rfl | rfl | rfl | rfl | rfl | rfl | rfl | rfl | rfl | rfl | rfl | rfl | rfl | rfl | rfl | rfl | rfl | rfl | rfl | rfl | rfl | rfl | rfl | rfl | rfl
 all_goals (as_aux_lemma => kernel_rfl)
theorem row_field0 (a b c d : Int) (w : World) : (Instr.field 74 (.agg #[.int .u8 a, .int .u32 b, .int .u32 c, .int .u32 d]) 0).run Try.prog w = .ok (.int .u8 a) w := by kernel_rfl
theorem kGet_some (n : Nat) : ∃ a b c d, kGet n = (a, b, c, d) := ⟨_, _, _, _, rfl⟩
theorem box_cell (w : World) (n : Int) (t : TypeId) (k : IntKind) (nd : Nat) : ((w.alloc (.cells #[.int k n] t)).drewN nd).cell? ⟨w.heap.size, 0, none⟩ = some (.int k n) := by
 show (match (w.heap.push (.cells #[.int k n] t))[w.heap.size]? with | some (.cells c _ _) => if (none : Option _).isSome then none else c[0]? | _ => none) = _
 simp
theorem box_below (w : World) (o : Obj) (nd : Nat) : Below w.heap.size w ((w.alloc o).drewN nd) := pw_below_drewN (below_alloc (Below.refl _ _) _) _
def inst_Form.f (a0 : Int) : Option Int := some (if 0 ≤ a0 ∧ a0 < 47 then (kGet a0.toNat).1 else 0)
set_option maxHeartbeats 800000 in
set_option maxRecDepth 100000 in
theorem inst_Form.calls (a0 : Int) (r : Int) (w : World) (h : inst_Form.f a0 = some r) :
  Calls Try.prog 26 #[.int .i64 a0] w fun e w' => e = .returned (.int .u8 r) ∧ Below w.heap.size w w' := by
 have H := Option.some.inj h
 clear h
 by_cases h0 : 0 ≤ a0 ∧ a0 < 47
 ·rw [if_pos h0] at H
  obtain ⟨h1, h2⟩ := h0
  obtain ⟨n, rfl⟩ := Int.eq_ofNat_of_zero_le h1
  rw [Int.toNat_natCast] at H
  have hi0 := kinds_index n (by omega)
  generalize kGet n = q at *
  obtain ⟨a, b, c, d⟩ := q
  obtain rfl : a = r := H
  have hi : ∀ w : World, (Instr.index 75 (.agg kCells) (.int .i64 (n : Int))).run Try.prog w = .ok (.agg #[.int .u8 a, .int .u32 b, .int .u32 c, .int .u32 d]) w := hi0
  clear hi0
  have hf := fun w => row_field0 a b c d w
  go_enter Try.func26, Try.ntmps26
  go_wp2_with (go_at_call 46; refine (kinds_calls _).mono ?_; rintro e w1 ⟨rfl, hb⟩)
  go_ret
  exact ⟨rfl, hb⟩
 ·rw [if_neg h0] at H
  subst H
  by_cases h1 : a0 < 0
  ·go_enter Try.func26, Try.ntmps26
   go_wp2_with fail
   go_ret
   exact ⟨rfl, Below.refl _ _⟩
  ·have h2 : 47 ≤ a0 := by omega
   go_enter Try.func26, Try.ntmps26
   go_wp2_with fail
   go_ret
   exact ⟨rfl, Below.refl _ _⟩
end Go.Proofs.Ytekenddkoahjgaa.Q
