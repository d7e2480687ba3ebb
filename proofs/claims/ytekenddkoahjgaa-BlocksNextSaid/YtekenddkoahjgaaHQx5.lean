import Derived.Test.YtekenddkoahjgaaHZc
import Derived.Test.YtekenddkoahjgaaProg
import Derived.Below
import Derived.Deep.Draws
import Derived.Deep.AppendLies
import Derived.Maps.AppendAt
import Derived.OwnWalk
import Derived.Laws.BytesArg
import Derived.Laws.MakeOwn
import Derived.Laws.OwnMore
import Derived.Deep.OwnRows
import Derived.Tactics
import Derived.Lib.ConvBytes
import Derived.Laws.Slices
import Derived.WalkKit
import Derived.KernelRfl
import Derived.RowKit3
import Derived.Deep.LoopGhost
import Derived.Deep.QuietTactic
import Derived.BigQuiet
import Derived.WideLaws
import Derived.Deep.DeepCutAuto
import Derived.Deep.CutBlock
import Derived.Deep.RegionHeld3
import Derived.Laws.Rows
import Derived.Lib.AppendStr
import Derived.ArgAppend
import Derived.Laws.IdiomCopy
import Derived.OrdersHeld
import Derived.Laws.BitsLemmas
import Derived.RowKit
import Derived.Outline
import Derived.Deep.RegionWith
import Derived.Laws.Tables
import Derived.Test.YtekenddkoahjgaaHBG
import Derived.Test.YtekenddkoahjgaaHBF
import Derived.Test.YtekenddkoahjgaaHBN
import Derived.Test.YtekenddkoahjgaaHWMore
section
namespace Go.Proofs.Ytekenddkoahjgaa.Q
open Go.RowKit Go.Proofs.YtekenddkoahjgaaW.PrintWords Go.Proofs.YtekenddkoahjgaaW.PrintLast Go.Proofs.YtekenddkoahjgaaW.PrintMore
attribute [local go_sem] max2_int min2_int max_two min_two max_three min_three max_four min_four
set_option linter.unusedVariables false
set_option linter.unusedSimpArgs false
theorem imax_u32 : IntKind.max .u32 = 4294967295 := rfl
theorem imax_u8 : IntKind.max .u8 = 255 := rfl
theorem isg_u32 : IntKind.signed .u32 = false := rfl
theorem isg_u8 : IntKind.signed .u8 = false := rfl
def errW : Option Int → Value
 | none => .nilIface
 | some c => .iface 0 (.int .i64 c)
theorem errW_none : errW none = .nilIface := rfl
theorem errW_some (c : Int) : errW (some c) = .iface 0 (.int .i64 c) := rfl
theorem info3 : (Try.prog.info? 3).map (fun i => (i.zero, i.size, i.bytes)) = some (some (.int .i64 0), 1, 8) := by kernel_rfl
theorem info24 : (Try.prog.info? 24).map (fun i => (i.zero, i.size, i.bytes)) = some (some (.int .u32 0), 1, 4) := by kernel_rfl
structure S40 where
 f0 : Int
 f1 : Int
def z40 : S40 := ⟨(0 : Int), (0 : Int)⟩
def k40 : Kd S40 := Kd.iso (Kd.pair (Kd.int .u32) (Kd.int .i64)) (fun x : S40 => (x.f0, x.f1))
theorem k40_open {w : World} {x : S40} {cs : List Value} (h : k40.K w x cs) : cs = [.int .u32 x.f0, .int .i64 x.f1] := by
 obtain ⟨_, _, rfl, rfl, rfl⟩ := h
 exact rfl
theorem k40_mkM (w : World) (base : Nat) (ok : Nat → Prop) (x : S40)  : k40.M w base ok x [.int .u32 x.f0, .int .i64 x.f1] := ⟨[.int .u32 x.f0], [.int .i64 x.f1], rfl, rfl, rfl⟩
def rd_T40 (xs : List S40) (i : Int) : S40 := xs.getD i.toNat z40
theorem at_T40 {w : World} {A : Option Addr} {n : Nat} {xs : List S40} (h : Kd.C k40 w A n xs) (i : Int) (h0 : 0 ≤ i) (h1 : i < n) : ∃ ad , A = some ad ∧ w.cell? (ad.add (i.toNat * 2)) = some (.int .u32 (rd_T40 xs i).f0) ∧ w.cell? ⟨(ad.add (i.toNat * 2)).block, (ad.add (i.toNat * 2)).off + 1, none⟩ = some (.int .i64 (rd_T40 xs i).f1) := by
 obtain ⟨ad, c, e, _, hK, hc0⟩ := Kd.C_get h z40 i h0 h1
 have hc : ∀ j u, c[j]? = some u → w.cell? (ad.add (i.toNat * 2 + j)) = some u := hc0
 obtain rfl := k40_open hK
 exact ⟨ad, e, hc 0 _ rfl, by rw [← add_field _ _ 1 (by omega)]; exact hc 1 _ rfl⟩
end Go.Proofs.Ytekenddkoahjgaa.Q
end
section
namespace Go.Proofs.Ytekenddkoahjgaa.Q
open Go.RowKit Go.Proofs.YtekenddkoahjgaaW.PrintWords Go.Proofs.YtekenddkoahjgaaW.PrintLast Go.Proofs.YtekenddkoahjgaaW.PrintMore
attribute [local go_sem] max2_int min2_int max_two min_two max_three min_three max_four min_four
attribute [local go_sem] imax_u32 imax_u8 isg_u32 isg_u8
set_option linter.unusedVariables false
set_option linter.unusedSimpArgs false
theorem below_setRow {B : Nat} {w W : World} {g : Nat} (h : Below B w W) (hg : B ≤ g) (cs : Array Value) : Below B w (W.setRow g cs) :=
 ⟨h.os, h.tape, h.output, by rw [setRow_size]; exact h.size, fun i hi => (setRow_other W g i cs (by omega)).trans (h.block i hi)⟩
def kRows : List (Int × Int × Int × Int) := [(85, 55, 0, 0), (85, 23, 0, 0), (74, 111, 0, 0), (73, 103, 0, 0), (66, 99, 0, 0), (66, 99, 1, 0), (66, 99, 4, 0), (66, 99, 5, 0), (66, 99, 6, 0), (66, 99, 7, 0), (73, 3, 0, 0), (73, 3, 1, 0), (73, 3, 2, 0), (73, 3, 4, 0), (73, 3, 5, 0), (83, 35, 0, 0), (83, 35, 1, 0), (83, 35, 2, 0), (73, 19, 0, 0), (73, 19, 2, 0), (73, 19, 3, 0), (73, 19, 4, 0), (73, 19, 6, 0), (73, 19, 7, 0), (72, 19, 1, 0), (72, 19, 5, 0), (72, 19, 5, 32), (82, 51, 0, 0), (82, 51, 0, 32), (82, 51, 1, 0), (82, 51, 2, 0), (82, 51, 3, 0), (82, 51, 4, 0), (82, 51, 5, 0), (82, 51, 5, 32), (82, 51, 6, 0), (82, 51, 7, 0), (82, 51, 0, 1), (82, 51, 1, 1), (82, 51, 2, 1), (82, 51, 3, 1), (82, 51, 4, 1), (82, 51, 5, 1), (82, 51, 6, 1), (82, 51, 7, 1), (69, 115, 0, 0), (69, 115, 0, 0)]
def kRow (r : Int × Int × Int × Int) : List Value := [.int .u8 r.1, .int .u32 r.2.1, .int .u32 r.2.2.1, .int .u32 r.2.2.2]
def kCells : Array Value := (kRows.flatMap kRow).toArray
def kZero : Array Value := (List.replicate 47 [Value.int .u8 0, .int .u32 0, .int .u32 0, .int .u32 0]).flatten.toArray
theorem wpList_build_lit {P : Program} {ops : Array Oper} {rest : List Oper} {o : Oper} {a : Act} {w : World} {Q : Exit → Act → World → Prop} (hg : o.guard = none) (t : TypeId) (parts : Array (Nat × Operand)) (ho : o.op = .build t parts)
  (cells : Array Value) (h1 : P.built t (parts.map fun (i, x) => (i, a.eval x)).toList = some cells) (h : wpList P ops Q rest (a.put o.dst (.agg cells)) w) : wpList P ops Q (o :: rest) a w :=
 wpList_build hg t parts ho (by rw [h1]; rfl) (by rw [h1]; exact h)
set_option maxHeartbeats 800000 in
set_option maxRecDepth 1000000 in
theorem kinds_calls (w : World) : Calls Try.prog 46 #[] w fun e w' => e = .returned (.agg kCells) ∧ Below w.heap.size w w' := by
 have hz_ : ∀ w : World, (zeroValue 75).run Try.prog w = .ok (.agg kZero) w := fun _ => by as_aux_lemma => kernel_rfl
 go_enter Try.func46, Try.ntmps46
 go_upto_region 1 with (fail)
 apply wp_region_lit
 refine wpList_build_lit rfl 74 _ rfl (kRow (85, 55, 0, 0)).toArray (by as_aux_lemma => kernel_rfl) ?_
 refine wpList_build_lit rfl 74 _ rfl (kRow (85, 23, 0, 0)).toArray (by as_aux_lemma => kernel_rfl) ?_
 refine wpList_build_lit rfl 74 _ rfl (kRow (74, 111, 0, 0)).toArray (by as_aux_lemma => kernel_rfl) ?_
 refine wpList_build_lit rfl 74 _ rfl (kRow (73, 103, 0, 0)).toArray (by as_aux_lemma => kernel_rfl) ?_
 refine wpList_build_lit rfl 74 _ rfl (kRow (66, 99, 0, 0)).toArray (by as_aux_lemma => kernel_rfl) ?_
 refine wpList_build_lit rfl 74 _ rfl (kRow (66, 99, 1, 0)).toArray (by as_aux_lemma => kernel_rfl) ?_
 refine wpList_build_lit rfl 74 _ rfl (kRow (66, 99, 4, 0)).toArray (by as_aux_lemma => kernel_rfl) ?_
 refine wpList_build_lit rfl 74 _ rfl (kRow (66, 99, 5, 0)).toArray (by as_aux_lemma => kernel_rfl) ?_
 refine wpList_build_lit rfl 74 _ rfl (kRow (66, 99, 6, 0)).toArray (by as_aux_lemma => kernel_rfl) ?_
 refine wpList_build_lit rfl 74 _ rfl (kRow (66, 99, 7, 0)).toArray (by as_aux_lemma => kernel_rfl) ?_
 refine wpList_build_lit rfl 74 _ rfl (kRow (73, 3, 0, 0)).toArray (by as_aux_lemma => kernel_rfl) ?_
 refine wpList_build_lit rfl 74 _ rfl (kRow (73, 3, 1, 0)).toArray (by as_aux_lemma => kernel_rfl) ?_
 refine wpList_build_lit rfl 74 _ rfl (kRow (73, 3, 2, 0)).toArray (by as_aux_lemma => kernel_rfl) ?_
 refine wpList_build_lit rfl 74 _ rfl (kRow (73, 3, 4, 0)).toArray (by as_aux_lemma => kernel_rfl) ?_
 refine wpList_build_lit rfl 74 _ rfl (kRow (73, 3, 5, 0)).toArray (by as_aux_lemma => kernel_rfl) ?_
 refine wpList_build_lit rfl 74 _ rfl (kRow (83, 35, 0, 0)).toArray (by as_aux_lemma => kernel_rfl) ?_
 refine wpList_build_lit rfl 74 _ rfl (kRow (83, 35, 1, 0)).toArray (by as_aux_lemma => kernel_rfl) ?_
 refine wpList_build_lit rfl 74 _ rfl (kRow (83, 35, 2, 0)).toArray (by as_aux_lemma => kernel_rfl) ?_
 refine wpList_build_lit rfl 74 _ rfl (kRow (73, 19, 0, 0)).toArray (by as_aux_lemma => kernel_rfl) ?_
 refine wpList_build_lit rfl 74 _ rfl (kRow (73, 19, 2, 0)).toArray (by as_aux_lemma => kernel_rfl) ?_
 refine wpList_build_lit rfl 74 _ rfl (kRow (73, 19, 3, 0)).toArray (by as_aux_lemma => kernel_rfl) ?_
 refine wpList_build_lit rfl 74 _ rfl (kRow (73, 19, 4, 0)).toArray (by as_aux_lemma => kernel_rfl) ?_
 refine wpList_build_lit rfl 74 _ rfl (kRow (73, 19, 6, 0)).toArray (by as_aux_lemma => kernel_rfl) ?_
 refine wpList_build_lit rfl 74 _ rfl (kRow (73, 19, 7, 0)).toArray (by as_aux_lemma => kernel_rfl) ?_
 refine wpList_build_lit rfl 74 _ rfl (kRow (72, 19, 1, 0)).toArray (by as_aux_lemma => kernel_rfl) ?_
 refine wpList_build_lit rfl 74 _ rfl (kRow (72, 19, 5, 0)).toArray (by as_aux_lemma => kernel_rfl) ?_
 refine wpList_build_lit rfl 74 _ rfl (kRow (72, 19, 5, 32)).toArray (by as_aux_lemma => kernel_rfl) ?_
 refine wpList_build_lit rfl 74 _ rfl (kRow (82, 51, 0, 0)).toArray (by as_aux_lemma => kernel_rfl) ?_
 refine wpList_build_lit rfl 74 _ rfl (kRow (82, 51, 0, 32)).toArray (by as_aux_lemma => kernel_rfl) ?_
 refine wpList_build_lit rfl 74 _ rfl (kRow (82, 51, 1, 0)).toArray (by as_aux_lemma => kernel_rfl) ?_
 refine wpList_build_lit rfl 74 _ rfl (kRow (82, 51, 2, 0)).toArray (by as_aux_lemma => kernel_rfl) ?_
 refine wpList_build_lit rfl 74 _ rfl (kRow (82, 51, 3, 0)).toArray (by as_aux_lemma => kernel_rfl) ?_
 refine wpList_build_lit rfl 74 _ rfl (kRow (82, 51, 4, 0)).toArray (by as_aux_lemma => kernel_rfl) ?_
 refine wpList_build_lit rfl 74 _ rfl (kRow (82, 51, 5, 0)).toArray (by as_aux_lemma => kernel_rfl) ?_
 refine wpList_build_lit rfl 74 _ rfl (kRow (82, 51, 5, 32)).toArray (by as_aux_lemma => kernel_rfl) ?_
 refine wpList_build_lit rfl 74 _ rfl (kRow (82, 51, 6, 0)).toArray (by as_aux_lemma => kernel_rfl) ?_
 refine wpList_build_lit rfl 74 _ rfl (kRow (82, 51, 7, 0)).toArray (by as_aux_lemma => kernel_rfl) ?_
 refine wpList_build_lit rfl 74 _ rfl (kRow (82, 51, 0, 1)).toArray (by as_aux_lemma => kernel_rfl) ?_
 refine wpList_build_lit rfl 74 _ rfl (kRow (82, 51, 1, 1)).toArray (by as_aux_lemma => kernel_rfl) ?_
 refine wpList_build_lit rfl 74 _ rfl (kRow (82, 51, 2, 1)).toArray (by as_aux_lemma => kernel_rfl) ?_
 refine wpList_build_lit rfl 74 _ rfl (kRow (82, 51, 3, 1)).toArray (by as_aux_lemma => kernel_rfl) ?_
 refine wpList_build_lit rfl 74 _ rfl (kRow (82, 51, 4, 1)).toArray (by as_aux_lemma => kernel_rfl) ?_
 refine wpList_build_lit rfl 74 _ rfl (kRow (82, 51, 5, 1)).toArray (by as_aux_lemma => kernel_rfl) ?_
 refine wpList_build_lit rfl 74 _ rfl (kRow (82, 51, 6, 1)).toArray (by as_aux_lemma => kernel_rfl) ?_
 refine wpList_build_lit rfl 74 _ rfl (kRow (82, 51, 7, 1)).toArray (by as_aux_lemma => kernel_rfl) ?_
 refine wpList_build_lit rfl 74 _ rfl (kRow (69, 115, 0, 0)).toArray (by as_aux_lemma => kernel_rfl) ?_
 refine wpList_build_lit rfl 74 _ rfl (kRow (69, 115, 0, 0)).toArray (by as_aux_lemma => kernel_rfl) ?_
 refine wpList_build_lit rfl 75 _ rfl kCells (by as_aux_lemma => kernel_rfl) ?_
 refine wpList_store_row rfl 75 _ _ rfl w.heap.size kCells (by as_aux_lemma => kernel_rfl) (by as_aux_lemma => kernel_rfl) 75 _ (heap_alloc_new _ _) (by as_aux_lemma => kernel_rfl) (by as_aux_lemma => kernel_rfl) (by as_aux_lemma => kernel_rfl) ?_
 apply wpList_nil
 iterate 4 go_step
 refine bodyPost_ret (results_cell_row rfl _ _ w.heap.size 75 kCells (0, 0) _ (by as_aux_lemma => kernel_rfl) (setRow_heap _ _ _ _ _ _ (heap_alloc_new _ _)) Try.underlying75 rfl (by as_aux_lemma => kernel_rfl)) rfl ⟨rfl, ?_⟩
 exact below_setRow (below_alloc (Below.refl _ _) _) (Nat.le_refl _) _
def kGet (n : Nat) : Int × Int × Int × Int := kRows.getD n (0, 0, 0, 0)
theorem kinds_index (n : Nat) (hn : n < 47) (w : World) : (Instr.index 75 (.agg kCells) (.int .i64 (n : Int))).run Try.prog w = .ok (.agg (kRow (kGet n)).toArray) w := by
 rcases (show n = 0 ∨ n = 1 ∨ n = 2 ∨ n = 3 ∨ n = 4 ∨ n = 5 ∨ n = 6 ∨ n = 7 ∨ n = 8 ∨ n = 9 ∨ n = 10 ∨ n = 11 ∨ n = 12 ∨ n = 13 ∨ n = 14 ∨ n = 15 ∨ n = 16 ∨ n = 17 ∨ n = 18 ∨ n = 19 ∨ n = 20 ∨ n = 21 ∨ n = 22 ∨ n = 23 ∨ n = 24 ∨ n = 25 ∨ n = 26 ∨ n = 27 ∨ n = 28 ∨ n = 29 ∨ n = 30 ∨ n = 31 ∨ n = 32 ∨ n = 33 ∨ n = 34 ∨ n = 35 ∨ n = 36 ∨ n = 37 ∨ n = 38 ∨ n = 39 ∨ n = 40 ∨ n = 41 ∨ n = 42 ∨ n = 43 ∨ n = 44 ∨ n = 45 ∨ n = 46 by omega) with rfl | rfl | rfl | rfl | rfl | rfl | rfl | rfl | rfl | rfl | rfl | rfl | rfl | rfl | rfl | rfl | rfl | rfl | rfl | rfl | rfl | rfl | rfl | rfl | rfl | rfl | rfl | rfl | rfl | rfl | rfl | rfl | rfl | rfl | rfl | rfl | rfl | rfl | rfl | rfl | rfl | rfl | rfl | rfl | rfl | rfl | rfl
 all_goals (as_aux_lemma => kernel_rfl)
theorem row_field0 (a b c d : Int) (w : World) : (Instr.field 74 (.agg #[.int .u8 a, .int .u32 b, .int .u32 c, .int .u32 d]) 0).run Try.prog w = .ok (.int .u8 a) w := by kernel_rfl
theorem kGet_some (n : Nat) : ∃ a b c d, kGet n = (a, b, c, d) := ⟨_, _, _, _, rfl⟩
theorem box_cell (w : World) (n : Int) (t : TypeId) (k : IntKind) (nd : Nat) : ((w.alloc (.cells #[.int k n] t)).drewN nd).cell? ⟨w.heap.size, 0, none⟩ = some (.int k n) := by
 show (match (w.heap.push (.cells #[.int k n] t))[w.heap.size]? with | some (.cells c _ _) => if (none : Option _).isSome then none else c[0]? | _ => none) = _
 simp
theorem box_below (w : World) (o : Obj) (nd : Nat) : Below w.heap.size w ((w.alloc o).drewN nd) := pw_below_drewN (below_alloc (Below.refl _ _) _) _
def inst_Form.f (a0 : Int) : Option Int := some (if 0 ≤ a0 ∧ a0 < 47 then (kGet a0.toNat).1 else 0)
set_option maxHeartbeats 800000 in
set_option maxRecDepth 100000 in
theorem inst_Form.calls (a0 : Int) (r : Int) (w : World) (h : inst_Form.f a0 = some r) :
  Calls Try.prog 26 #[.int .i64 a0] w fun e w' => e = .returned (.int .u8 r) ∧ Below w.heap.size w w' := by
 have H := Option.some.inj h
 clear h
 by_cases h0 : 0 ≤ a0 ∧ a0 < 47
 ·rw [if_pos h0] at H
  obtain ⟨h1, h2⟩ := h0
  obtain ⟨n, rfl⟩ := Int.eq_ofNat_of_zero_le h1
  rw [Int.toNat_natCast] at H
  have hi0 := kinds_index n (by omega)
  generalize kGet n = q at *
  obtain ⟨a, b, c, d⟩ := q
  obtain rfl : a = r := H
  have hi : ∀ w : World, (Instr.index 75 (.agg kCells) (.int .i64 (n : Int))).run Try.prog w = .ok (.agg #[.int .u8 a, .int .u32 b, .int .u32 c, .int .u32 d]) w := hi0
  clear hi0
  have hf := fun w => row_field0 a b c d w
  go_enter Try.func26, Try.ntmps26
  go_wp2_with (go_at_call 46; refine (kinds_calls _).mono ?_; rintro e w1 ⟨rfl, hb⟩)
  go_ret
  exact ⟨rfl, hb⟩
 ·rw [if_neg h0] at H
  subst H
  by_cases h1 : a0 < 0
  ·go_enter Try.func26, Try.ntmps26
   go_wp2_with fail
   go_ret
   exact ⟨rfl, Below.refl _ _⟩
  ·have h2 : 47 ≤ a0 := by omega
   go_enter Try.func26, Try.ntmps26
   go_wp2_with fail
   go_ret
   exact ⟨rfl, Below.refl _ _⟩
end Go.Proofs.Ytekenddkoahjgaa.Q
end
section
namespace Go.Proofs.Ytekenddkoahjgaa.Q
open Go.RowKit Go.Proofs.YtekenddkoahjgaaW.PrintWords Go.Proofs.YtekenddkoahjgaaW.PrintLast Go.Proofs.YtekenddkoahjgaaW.PrintMore
attribute [local go_sem] max2_int min2_int max_two min_two max_three min_three max_four min_four
attribute [local go_sem] imax_u32 imax_u8 isg_u32 isg_u8
set_option linter.unusedVariables false
set_option linter.unusedSimpArgs false
mutual
def inst_has.j0 : Nat → Int → Bool → Option (Bool × Bool × Bool)
 | 0, _, _ => none
 | k + 1, x5, x6 => if x6 = true then (some (true, false, false)) else (if x5 = 73 then (inst_has.j1 k x5 (x5 == 73)) else (inst_has.j1 k x5 (x5 == 72)))
def inst_has.j1 : Nat → Int → Bool → Option (Bool × Bool × Bool)
 | 0, _, _ => none
 | k + 1, x5, x9 => if x9 = true then (some (true, true, false)) else (if x5 = 66 then (inst_has.j2 k x5 (x5 == 66)) else (inst_has.j2 k x5 (x5 == 83)))
def inst_has.j2 : Nat → Int → Bool → Option (Bool × Bool × Bool)
 | 0, _, _ => none
 | k + 1, x5, x12 => if x12 = true then (some (false, true, true)) else (if x5 = 82 then (some (true, true, true)) else (some (false, false, false)))
end
def inst_has.f (k : Nat) (a0 : Int) : Option (Bool × Bool × Bool) := if a0 = 85 then (inst_has.j0 k a0 (a0 == 85)) else (inst_has.j0 k a0 (a0 == 74))
theorem inst_has.mono_l : ∀ k, (∀ y0 y1, LeO (inst_has.j0 k y0 y1) (inst_has.j0 (k + 1) y0 y1)) ∧ (∀ y0 y1, LeO (inst_has.j1 k y0 y1) (inst_has.j1 (k + 1) y0 y1)) ∧ (∀ y0 y1, LeO (inst_has.j2 k y0 y1) (inst_has.j2 (k + 1) y0 y1))
 | 0 => ⟨fun _ _ r h => by simp [inst_has.j0] at h, fun _ _ r h => by simp [inst_has.j1] at h, fun _ _ r h => by simp [inst_has.j2] at h⟩
 | k + 1 => by
  obtain ⟨ih0, ih1, ih2⟩ := inst_has.mono_l k
  refine ⟨?_, ?_, ?_⟩
  ·intro y0 y1
   unfold inst_has.j0
   repeat' first
   | (with_reducible exact ih0 _ _)
   | (with_reducible exact ih1 _ _)
   | (with_reducible exact ih2 _ _)
   | (with_reducible exact LeO.refl _)
   | (with_reducible exact LeO.none _)
   | (with_reducible refine LeO.ite ?_ ?_)
   | (with_reducible refine LeO.bind ?_ (fun _ => ?_))
   | exact ih0 _ _
   | exact ih1 _ _
   | exact ih2 _ _
   | exact LeO.none _
   | refine LeO.ite ?_ ?_
   | refine LeO.bind ?_ (fun _ => ?_)
  ·intro y0 y1
   unfold inst_has.j1
   repeat' first
   | (with_reducible exact ih0 _ _)
   | (with_reducible exact ih1 _ _)
   | (with_reducible exact ih2 _ _)
   | (with_reducible exact LeO.refl _)
   | (with_reducible exact LeO.none _)
   | (with_reducible refine LeO.ite ?_ ?_)
   | (with_reducible refine LeO.bind ?_ (fun _ => ?_))
   | exact ih0 _ _
   | exact ih1 _ _
   | exact ih2 _ _
   | exact LeO.none _
   | refine LeO.ite ?_ ?_
   | refine LeO.bind ?_ (fun _ => ?_)
  ·intro y0 y1
   unfold inst_has.j2
   repeat' first
   | (with_reducible exact ih0 _ _)
   | (with_reducible exact ih1 _ _)
   | (with_reducible exact ih2 _ _)
   | (with_reducible exact LeO.refl _)
   | (with_reducible exact LeO.none _)
   | (with_reducible refine LeO.ite ?_ ?_)
   | (with_reducible refine LeO.bind ?_ (fun _ => ?_))
   | exact ih0 _ _
   | exact ih1 _ _
   | exact ih2 _ _
   | exact LeO.none _
   | refine LeO.ite ?_ ?_
   | refine LeO.bind ?_ (fun _ => ?_)
theorem inst_has.mono : ∀ a0 k, LeO (inst_has.f k a0) (inst_has.f (k + 1) a0) := by
 intro a0 k
 obtain ⟨ih0, ih1, ih2⟩ := inst_has.mono_l k
 unfold inst_has.f
 repeat' first
   | (with_reducible exact ih0 _ _)
   | (with_reducible exact ih1 _ _)
   | (with_reducible exact ih2 _ _)
   | (with_reducible exact LeO.refl _)
   | (with_reducible exact LeO.none _)
   | (with_reducible refine LeO.ite ?_ ?_)
   | (with_reducible refine LeO.bind ?_ (fun _ => ?_))
   | exact ih0 _ _
   | exact ih1 _ _
   | exact ih2 _ _
   | exact LeO.none _
   | refine LeO.ite ?_ ?_
   | refine LeO.bind ?_ (fun _ => ?_)
set_option maxHeartbeats 8000000 in
set_option maxRecDepth 100000 in
theorem inst_has.calls (k : Nat) (a0 : Int) (r1 : Bool) (r2 : Bool) (r3 : Bool) (w : World) (h : inst_has.f k a0 = some (r1, r2, r3)) :
  Calls Try.prog 47 #[.int .u8 a0] w fun e w' => e = .returned (.tuple #[.bool r1, .bool r2, .bool r3]) ∧ Drawn0 w w' := by
 have H : (if a0 = 85 then (inst_has.j0 k a0 (a0 == 85)) else (inst_has.j0 k a0 (a0 == 74))) = some (r1, r2, r3) := h
 clear h
 have HC2 := zz H
 clear H
 go_enter Try.func47, Try.ntmps47
 go_upto_if 6 with (fail)
 go_cut [6] (fun v6 wc => ∃ (kq : Nat) (x6_1 : Bool), v6 = .bool x6_1 ∧ Aside0 (inst_has.j0 kq a0 x6_1 = some (r1, r2, r3)) ∧ Aside0 (kq ≤ k) ∧ Drawn0 w wc)
 case first =>
  have H := HC2.out
  clear HC2
  by_cases c3 : a0 = 85
  ·rw [if_pos c3] at H
   have c3b0 : (a0 == 85) = true := beq_iff_eq.mpr c3
   have c3b1 : (a0 != 85) = false := bne_eq_false_iff_eq.mpr c3
   clear c3
   (first | rw [c3b0] | (simp only [i64_w, i32_w]; rw [c3b0]) | skip)
   have H' := zz H
   clear H
   go_wp2
   go_meet
   case rel => exact ⟨_, ((a0 == 85)), (zzh), H', ⟨by first | omega | exact Nat.le_refl _⟩, zzd⟩
  ·rw [if_neg c3] at H
   have c3b0 : (a0 == 85) = false := beq_eq_false_iff_ne.mpr c3
   have c3b1 : (a0 != 85) = true := bne_iff_ne.mpr c3
   (first | rw [c3b0] | (simp only [i64_w, i32_w]; rw [c3b0]) | skip)
   have H' := zz H
   clear H
   go_wp2
   go_meet
   case rel => exact ⟨_, ((a0 == 74)), (zzh), H', ⟨by first | omega | exact Nat.le_refl _⟩, zzd⟩
 case rest =>
  clear HC2
  try clear p2
  try clear c3
  try clear c3b0
  try clear c3b1
  obtain ⟨kq, x6_1, rfl, HA, HJ1, ⟨mc1, rfl⟩⟩ := hcut
  cases kq with
  | zero => exact absurd HA.out (by simp [inst_has.j0])
  | succ kj1 =>
   have H := HA.out
   clear HA
   simp only [inst_has.j0] at H
   by_cases c4 : x6_1 = true
   ·subst c4
    have H1 : (some (true, false, false)) = some (r1, r2, r3) := by rw [if_pos rfl] at H; exact H
    clear H
    have H := H1
    clear H1
    simp only [Option.some.injEq, Prod.mk.injEq] at H
    obtain ⟨rfl, rfl, rfl⟩ := H
    go_wp2
    go_ret3
    exact ⟨zzh, zzd⟩
   ·replace c4 := Bool.eq_false_iff.mpr c4
    subst c4
    have H1 : (if a0 = 73 then (inst_has.j1 kj1 a0 (a0 == 73)) else (inst_has.j1 kj1 a0 (a0 == 72))) = some (r1, r2, r3) := by rw [if_neg (show ¬ (false = true) by decide)] at H; exact H
    clear H
    have H := H1
    clear H1
    have HC5 := zz H
    clear H
    go_upto_if 9 with (fail)
    go_cut [9] (fun v9 wc => ∃ (kq : Nat) (x9_4 : Bool), v9 = .bool x9_4 ∧ Aside0 (inst_has.j1 kq a0 x9_4 = some (r1, r2, r3)) ∧ Aside0 (kq ≤ kj1) ∧ Drawn0 w wc)
    case first =>
     have H := HC5.out
     clear HC5
     by_cases c6 : a0 = 73
     ·rw [if_pos c6] at H
      have c6b0 : (a0 == 73) = true := beq_iff_eq.mpr c6
      have c6b1 : (a0 != 73) = false := bne_eq_false_iff_eq.mpr c6
      clear c6
      (first | rw [c6b0] | (simp only [i64_w, i32_w]; rw [c6b0]) | skip)
      have H' := zz H
      clear H
      go_wp2
      go_meet
      case rel => exact ⟨_, ((a0 == 73)), (zzh), H', ⟨by have := HJ1.out; first | omega | exact Nat.le_refl _⟩, zzd⟩
     ·rw [if_neg c6] at H
      have c6b0 : (a0 == 73) = false := beq_eq_false_iff_ne.mpr c6
      have c6b1 : (a0 != 73) = true := bne_iff_ne.mpr c6
      (first | rw [c6b0] | (simp only [i64_w, i32_w]; rw [c6b0]) | skip)
      have H' := zz H
      clear H
      go_wp2
      go_meet
      case rel => exact ⟨_, ((a0 == 72)), (zzh), H', ⟨by have := HJ1.out; first | omega | exact Nat.le_refl _⟩, zzd⟩
    case rest =>
     clear HC5
     try clear c1
     try clear p2
     try clear c3
     try clear c3b0
     try clear c3b1
     try clear c4
     try clear c6
     try clear c6b0
     try clear c6b1
     try clear p2
     obtain ⟨kq, x9_4, rfl, HA, HJ4, ⟨mc4, rfl⟩⟩ := hcut
     cases kq with
     | zero => exact absurd HA.out (by simp [inst_has.j1])
     | succ kj4 =>
      have H := HA.out
      clear HA
      simp only [inst_has.j1] at H
      by_cases c7 : x9_4 = true
      ·subst c7
       have H1 : (some (true, true, false)) = some (r1, r2, r3) := by rw [if_pos rfl] at H; exact H
       clear H
       have H := H1
       clear H1
       simp only [Option.some.injEq, Prod.mk.injEq] at H
       obtain ⟨rfl, rfl, rfl⟩ := H
       go_wp2
       go_ret3
       exact ⟨zzh, zzd⟩
      ·replace c7 := Bool.eq_false_iff.mpr c7
       subst c7
       have H1 : (if a0 = 66 then (inst_has.j2 kj4 a0 (a0 == 66)) else (inst_has.j2 kj4 a0 (a0 == 83))) = some (r1, r2, r3) := by rw [if_neg (show ¬ (false = true) by decide)] at H; exact H
       clear H
       have H := H1
       clear H1
       have HC8 := zz H
       clear H
       go_upto_if 12 with (fail)
       go_cut [12] (fun v12 wc => ∃ (kq : Nat) (x12_7 : Bool), v12 = .bool x12_7 ∧ Aside0 (inst_has.j2 kq a0 x12_7 = some (r1, r2, r3)) ∧ Aside0 (kq ≤ kj4) ∧ Drawn0 w wc)
       case first =>
        have H := HC8.out
        clear HC8
        by_cases c9 : a0 = 66
        ·rw [if_pos c9] at H
         have c9b0 : (a0 == 66) = true := beq_iff_eq.mpr c9
         have c9b1 : (a0 != 66) = false := bne_eq_false_iff_eq.mpr c9
         clear c9
         (first | rw [c9b0] | (simp only [i64_w, i32_w]; rw [c9b0]) | skip)
         have H' := zz H
         clear H
         go_wp2
         go_meet
         case rel => exact ⟨_, ((a0 == 66)), (zzh), H', ⟨by have := HJ1.out; have := HJ4.out; first | omega | exact Nat.le_refl _⟩, zzd⟩
        ·rw [if_neg c9] at H
         have c9b0 : (a0 == 66) = false := beq_eq_false_iff_ne.mpr c9
         have c9b1 : (a0 != 66) = true := bne_iff_ne.mpr c9
         (first | rw [c9b0] | (simp only [i64_w, i32_w]; rw [c9b0]) | skip)
         have H' := zz H
         clear H
         go_wp2
         go_meet
         case rel => exact ⟨_, ((a0 == 83)), (zzh), H', ⟨by have := HJ1.out; have := HJ4.out; first | omega | exact Nat.le_refl _⟩, zzd⟩
       case rest =>
        clear HC8
        try clear c1
        try clear p2
        try clear c3
        try clear c3b0
        try clear c3b1
        try clear c4
        try clear c6
        try clear c6b0
        try clear c6b1
        try clear c7
        try clear c9
        try clear c9b0
        try clear c9b1
        try clear p2
        obtain ⟨kq, x12_7, rfl, HA, HJ7, ⟨mc7, rfl⟩⟩ := hcut
        cases kq with
        | zero => exact absurd HA.out (by simp [inst_has.j2])
        | succ kj7 =>
         have H := HA.out
         clear HA
         simp only [inst_has.j2] at H
         by_cases c10 : x12_7 = true
         ·subst c10
          have H1 : (some (false, true, true)) = some (r1, r2, r3) := by rw [if_pos rfl] at H; exact H
          clear H
          have H := H1
          clear H1
          simp only [Option.some.injEq, Prod.mk.injEq] at H
          obtain ⟨rfl, rfl, rfl⟩ := H
          go_wp2
          go_ret3
          exact ⟨zzh, zzd⟩
         ·replace c10 := Bool.eq_false_iff.mpr c10
          subst c10
          have H1 : (if a0 = 82 then (some (true, true, true)) else (some (false, false, false))) = some (r1, r2, r3) := by rw [if_neg (show ¬ (false = true) by decide)] at H; exact H
          clear H
          have H := H1
          clear H1
          by_cases c11 : a0 = 82
          ·rw [if_pos c11] at H
           have c11b0 : (a0 == 82) = true := beq_iff_eq.mpr c11
           have c11b1 : (a0 != 82) = false := bne_eq_false_iff_eq.mpr c11
           clear c11
           simp only [Option.some.injEq, Prod.mk.injEq] at H
           obtain ⟨rfl, rfl, rfl⟩ := H
           go_wp2
           go_ret3
           exact ⟨zzh, zzd⟩
          ·rw [if_neg c11] at H
           have c11b0 : (a0 == 82) = false := beq_eq_false_iff_ne.mpr c11
           have c11b1 : (a0 != 82) = true := bne_iff_ne.mpr c11
           simp only [Option.some.injEq, Prod.mk.injEq] at H
           obtain ⟨rfl, rfl, rfl⟩ := H
           go_wp2
           go_ret3
           exact ⟨zzh, zzd⟩
end Go.Proofs.Ytekenddkoahjgaa.Q
end
section
namespace Go.Proofs.Ytekenddkoahjgaa.Q
open Go.RowKit Go.Proofs.YtekenddkoahjgaaW.PrintWords Go.Proofs.YtekenddkoahjgaaW.PrintLast Go.Proofs.YtekenddkoahjgaaW.PrintMore
attribute [local go_sem] max2_int min2_int max_two min_two max_three min_three max_four min_four
attribute [local go_sem] imax_u32 imax_u8 isg_u32 isg_u8
set_option linter.unusedVariables false
set_option linter.unusedSimpArgs false
def inst_between.f (a0 : Int) (a1 : Int) (a2 : Int) : Option (Bool) := if a0 ≥ a1 then (some (decide (a0 ≤ a2))) else (some false)
set_option maxHeartbeats 8000000 in
set_option maxRecDepth 100000 in
theorem inst_between.calls (a0 : Int) (a1 : Int) (a2 : Int) (r : Bool) (w : World) (h : inst_between.f a0 a1 a2 = some r) :
  Calls Try.prog 64 #[.int .i64 a0, .int .i64 a1, .int .i64 a2] w fun e w' => e = .returned (.bool r) ∧ Drawn0 w w' := by
 have H : (if a0 ≥ a1 then (some (decide (a0 ≤ a2))) else (some false)) = some r := h
 clear h
 by_cases c4 : a0 ≥ a1
 ·rw [if_pos c4] at H
  have c4b0 : decide (a1 ≤ a0) = true := decide_eq_true c4
  clear c4
  obtain rfl := Option.some.inj H
  go_enter Try.func64, Try.ntmps64
  go_wp2
  go_ret
  exact ⟨zzh, zzd⟩
 ·rw [if_neg c4] at H
  have c4b0 : decide (a1 ≤ a0) = false := decide_eq_false c4
  clear c4
  obtain rfl := Option.some.inj H
  go_enter Try.func64, Try.ntmps64
  go_wp2
  go_ret
  exact ⟨zzh, zzd⟩
def inst_register.f (a0 : Bool) (a1 : Int) : Option (Bool) := if a0 = true then ((inst_between.f a1 0 31).bind fun t101 => (if t101 = true then (some true) else (some (a1 == 0)))) else (some (a1 == 0))
set_option maxHeartbeats 8000000 in
set_option maxRecDepth 100000 in
theorem inst_register.calls (a0 : Bool) (a1 : Int) (r : Bool) (w : World) (h : inst_register.f a0 a1 = some r) :
  Calls Try.prog 48 #[.bool a0, .int .i64 a1] w fun e w' => e = .returned (.bool r) ∧ Drawn0 w w' := by
 have H : (if a0 = true then ((inst_between.f a1 0 31).bind fun t101 => (if t101 = true then (some true) else (some (a1 == 0)))) else (some (a1 == 0))) = some r := h
 clear h
 by_cases c3 : a0 = true
 ·subst c3
  have H1 : ((inst_between.f a1 0 31).bind fun t101 => (if t101 = true then (some true) else (some (a1 == 0)))) = some r := by rw [if_pos rfl] at H; exact H
  clear H
  have H := H1
  clear H1
  replace H := Option.bind_eq_some_iff.mp H
  obtain ⟨t101, A40, H⟩ := H
  replace H : (if t101 = true then (some true) else (some (a1 == 0))) = some r := H
  have A4 := zz A40
  clear A40
  by_cases c5 : t101 = true
  ·subst c5
   have H1 : (some true) = some r := by rw [if_pos rfl] at H; exact H
   clear H
   have H := H1
   clear H1
   obtain rfl := Option.some.inj H
   go_enter Try.func48, Try.ntmps48
   go_wp2_with (first | (go_at_call 64; (with_reducible refine (inst_between.calls a1 0 31 true _ A4.out).mono ?_); rintro e w' ⟨rfl, ⟨nd, rfl⟩⟩))
   go_ret
   exact ⟨zzh, zzd⟩
  ·replace c5 := Bool.eq_false_iff.mpr c5
   subst c5
   have H1 : (some (a1 == 0)) = some r := by rw [if_neg (show ¬ (false = true) by decide)] at H; exact H
   clear H
   have H := H1
   clear H1
   obtain rfl := Option.some.inj H
   go_enter Try.func48, Try.ntmps48
   go_wp2_with (first | (go_at_call 64; (with_reducible refine (inst_between.calls a1 0 31 false _ A4.out).mono ?_); rintro e w' ⟨rfl, ⟨nd, rfl⟩⟩))
   go_ret
   exact ⟨zzh, zzd⟩
 ·replace c3 := Bool.eq_false_iff.mpr c3
  subst c3
  have H1 : (some (a1 == 0)) = some r := by rw [if_neg (show ¬ (false = true) by decide)] at H; exact H
  clear H
  have H := H1
  clear H1
  obtain rfl := Option.some.inj H
  go_enter Try.func48, Try.ntmps48
  go_wp2
  go_ret
  exact ⟨zzh, zzd⟩
def inst_number.j0 : Nat → Int → Int → Bool → Option (Bool)
 | 0, _, _, _ => none
 | k + 1, x1, x5, x19 => if x19 = true then ((inst_between.f x1 (-2048) 2047).bind fun t104 => (some t104)) else (if x5 = 66 then ((inst_between.f x1 (-4096) 4094).bind fun t105 => (if t105 = true then (some ((Int.tmod x1 2) == 0)) else (some false))) else (if x5 = 72 then ((inst_between.f x1 0 31).bind fun t106 => (some t106)) else (some (x1 == 0))))
def inst_number.f (k : Nat) (a0 : Int) (a1 : Int) : Option (Bool) := if a0 = 85 then ((inst_between.f a1 0 1048575).bind fun t102 => (some t102)) else (if a0 = 74 then ((inst_between.f a1 (-1048576) 1048574).bind fun t103 => (if t103 = true then (some ((Int.tmod a1 2) == 0)) else (some false))) else (if a0 = 73 then (inst_number.j0 k a1 a0 (a0 == 73)) else (inst_number.j0 k a1 a0 (a0 == 83))))
theorem inst_number.mono_l : ∀ k, (∀ y0 y1 y2, LeO (inst_number.j0 k y0 y1 y2) (inst_number.j0 (k + 1) y0 y1 y2))
 | 0 => fun _ _ _ r h => by simp [inst_number.j0] at h
 | k + 1 => by
  have ih0 := inst_number.mono_l k
  ·intro y0 y1 y2
   unfold inst_number.j0
   repeat' first
   | (with_reducible exact ih0 _ _ _)
   | (with_reducible exact LeO.refl _)
   | (with_reducible exact LeO.none _)
   | (with_reducible refine LeO.ite ?_ ?_)
   | (with_reducible refine LeO.bind ?_ (fun _ => ?_))
   | exact ih0 _ _ _
   | exact LeO.none _
   | refine LeO.ite ?_ ?_
   | refine LeO.bind ?_ (fun _ => ?_)
theorem inst_number.mono : ∀ a0 a1 k, LeO (inst_number.f k a0 a1) (inst_number.f (k + 1) a0 a1) := by
 intro a0 a1 k
 have ih0 := inst_number.mono_l k
 unfold inst_number.f
 repeat' first
   | (with_reducible exact ih0 _ _ _)
   | (with_reducible exact LeO.refl _)
   | (with_reducible exact LeO.none _)
   | (with_reducible refine LeO.ite ?_ ?_)
   | (with_reducible refine LeO.bind ?_ (fun _ => ?_))
   | exact ih0 _ _ _
   | exact LeO.none _
   | refine LeO.ite ?_ ?_
   | refine LeO.bind ?_ (fun _ => ?_)
set_option maxHeartbeats 8000000 in
set_option maxRecDepth 100000 in
theorem inst_number.calls (k : Nat) (a0 : Int) (a1 : Int) (r : Bool) (w : World) (h : inst_number.f k a0 a1 = some r) :
  Calls Try.prog 49 #[.int .u8 a0, .int .i64 a1] w fun e w' => e = .returned (.bool r) ∧ Drawn0 w w' := by
 have H : (if a0 = 85 then ((inst_between.f a1 0 1048575).bind fun t102 => (some t102)) else (if a0 = 74 then ((inst_between.f a1 (-1048576) 1048574).bind fun t103 => (if t103 = true then (some ((Int.tmod a1 2) == 0)) else (some false))) else (if a0 = 73 then (inst_number.j0 k a1 a0 (a0 == 73)) else (inst_number.j0 k a1 a0 (a0 == 83))))) = some r := h
 clear h
 by_cases c3 : a0 = 85
 ·rw [if_pos c3] at H
  have c3b0 : (a0 == 85) = true := beq_iff_eq.mpr c3
  have c3b1 : (a0 != 85) = false := bne_eq_false_iff_eq.mpr c3
  clear c3
  replace H := Option.bind_eq_some_iff.mp H
  obtain ⟨t102, A40, H⟩ := H
  replace H : (some t102) = some r := H
  have A4 := zz A40
  clear A40
  obtain rfl := Option.some.inj H
  go_enter Try.func49, Try.ntmps49
  go_wp2_with (first | ((with_reducible refine gate_callee (f := 64) rfl ?_); refine goesL_ (some 9) rfl rfl Try.func64 (by kernel_rfl) rfl #[.int .i64 a1, .int .i64 0, .int .i64 1048575] rfl zza ?_; (with_reducible refine (inst_between.calls a1 0 1048575 t102 _ A4.out).mono ?_); rintro e w' ⟨rfl, ⟨nd, rfl⟩⟩; refine ⟨_, rfl, ?_⟩))
  go_ret
  exact ⟨zzh, zzd⟩
 ·rw [if_neg c3] at H
  have c3b0 : (a0 == 85) = false := beq_eq_false_iff_ne.mpr c3
  have c3b1 : (a0 != 85) = true := bne_iff_ne.mpr c3
  by_cases c5 : a0 = 74
  ·rw [if_pos c5] at H
   have c5b0 : (a0 == 74) = true := beq_iff_eq.mpr c5
   have c5b1 : (a0 != 74) = false := bne_eq_false_iff_eq.mpr c5
   clear c5
   replace H := Option.bind_eq_some_iff.mp H
   obtain ⟨t103, A60, H⟩ := H
   replace H : (if t103 = true then (some ((Int.tmod a1 2) == 0)) else (some false)) = some r := H
   have A6 := zz A60
   clear A60
   by_cases c7 : t103 = true
   ·subst c7
    have H1 : (some ((Int.tmod a1 2) == 0)) = some r := by rw [if_pos rfl] at H; exact H
    clear H
    have H := H1
    clear H1
    obtain rfl := Option.some.inj H
    go_enter Try.func49, Try.ntmps49
    go_wp2_with (first | ((with_reducible refine gate_callee (f := 64) rfl ?_); refine goesL_ (some 13) rfl rfl Try.func64 (by kernel_rfl) rfl #[.int .i64 a1, .int .i64 (-1048576), .int .i64 1048574] rfl zza ?_; (with_reducible refine (inst_between.calls a1 (-1048576) 1048574 true _ A6.out).mono ?_); rintro e w' ⟨rfl, ⟨nd, rfl⟩⟩; refine ⟨_, rfl, ?_⟩))
    go_ret
    exact ⟨zzh, zzd⟩
   ·replace c7 := Bool.eq_false_iff.mpr c7
    subst c7
    have H1 : (some false) = some r := by rw [if_neg (show ¬ (false = true) by decide)] at H; exact H
    clear H
    have H := H1
    clear H1
    obtain rfl := Option.some.inj H
    go_enter Try.func49, Try.ntmps49
    go_wp2_with (first | ((with_reducible refine gate_callee (f := 64) rfl ?_); refine goesL_ (some 13) rfl rfl Try.func64 (by kernel_rfl) rfl #[.int .i64 a1, .int .i64 (-1048576), .int .i64 1048574] rfl zza ?_; (with_reducible refine (inst_between.calls a1 (-1048576) 1048574 false _ A6.out).mono ?_); rintro e w' ⟨rfl, ⟨nd, rfl⟩⟩; refine ⟨_, rfl, ?_⟩))
    go_ret
    exact ⟨zzh, zzd⟩
  ·rw [if_neg c5] at H
   have c5b0 : (a0 == 74) = false := beq_eq_false_iff_ne.mpr c5
   have c5b1 : (a0 != 74) = true := bne_iff_ne.mpr c5
   have HC8 := zz H
   clear H
   go_enter Try.func49, Try.ntmps49
   go_upto_if 19 with (fail)
   go_cut [19] (fun v19 wc => ∃ (kq : Nat) (x19_7 : Bool), v19 = .bool x19_7 ∧ Aside0 (inst_number.j0 kq a1 a0 x19_7 = some r) ∧ Aside0 (kq ≤ k) ∧ Drawn0 w wc)
   case first =>
    have H := HC8.out
    clear HC8
    by_cases c9 : a0 = 73
    ·rw [if_pos c9] at H
     have c9b0 : (a0 == 73) = true := beq_iff_eq.mpr c9
     have c9b1 : (a0 != 73) = false := bne_eq_false_iff_eq.mpr c9
     clear c9
     (first | rw [c9b0] | (simp only [i64_w, i32_w]; rw [c9b0]) | skip)
     have H' := zz H
     clear H
     go_wp2
     go_meet
     case rel => exact ⟨_, ((a0 == 73)), (zzh), H', ⟨by first | omega | exact Nat.le_refl _⟩, zzd⟩
    ·rw [if_neg c9] at H
     have c9b0 : (a0 == 73) = false := beq_eq_false_iff_ne.mpr c9
     have c9b1 : (a0 != 73) = true := bne_iff_ne.mpr c9
     (first | rw [c9b0] | (simp only [i64_w, i32_w]; rw [c9b0]) | skip)
     have H' := zz H
     clear H
     go_wp2
     go_meet
     case rel => exact ⟨_, ((a0 == 83)), (zzh), H', ⟨by first | omega | exact Nat.le_refl _⟩, zzd⟩
   case rest =>
    clear HC8
    try clear p2
    try clear c3
    try clear c3b0
    try clear c3b1
    try clear c4
    try clear c5
    try clear c5b0
    try clear c5b1
    try clear c6
    try clear c7
    try clear c9
    try clear c9b0
    try clear c9b1
    obtain ⟨kq, x19_7, rfl, HA, HJ7, ⟨mc7, rfl⟩⟩ := hcut
    cases kq with
    | zero => exact absurd HA.out (by simp [inst_number.j0])
    | succ kj7 =>
     have H := HA.out
     clear HA
     simp only [inst_number.j0] at H
     by_cases c10 : x19_7 = true
     ·subst c10
      have H1 : ((inst_between.f a1 (-2048) 2047).bind fun t104 => (some t104)) = some r := by rw [if_pos rfl] at H; exact H
      clear H
      have H := H1
      clear H1
      replace H := Option.bind_eq_some_iff.mp H
      obtain ⟨t104, A110, H⟩ := H
      replace H : (some t104) = some r := H
      have A11 := zz A110
      clear A110
      obtain rfl := Option.some.inj H
      go_wp2_with (first | ((with_reducible refine gate_callee (f := 64) rfl ?_); refine goesL_ (some 23) rfl rfl Try.func64 (by kernel_rfl) rfl #[.int .i64 a1, .int .i64 (-2048), .int .i64 2047] rfl zza ?_; (with_reducible refine (inst_between.calls a1 (-2048) 2047 t104 _ A11.out).mono ?_); rintro e w' ⟨rfl, ⟨nd, rfl⟩⟩; refine ⟨_, rfl, ?_⟩))
      go_ret
      exact ⟨zzh, zzd⟩
     ·replace c10 := Bool.eq_false_iff.mpr c10
      subst c10
      have H1 : (if a0 = 66 then ((inst_between.f a1 (-4096) 4094).bind fun t105 => (if t105 = true then (some ((Int.tmod a1 2) == 0)) else (some false))) else (if a0 = 72 then ((inst_between.f a1 0 31).bind fun t106 => (some t106)) else (some (a1 == 0)))) = some r := by rw [if_neg (show ¬ (false = true) by decide)] at H; exact H
      clear H
      have H := H1
      clear H1
      by_cases c12 : a0 = 66
      ·rw [if_pos c12] at H
       have c12b0 : (a0 == 66) = true := beq_iff_eq.mpr c12
       have c12b1 : (a0 != 66) = false := bne_eq_false_iff_eq.mpr c12
       clear c12
       replace H := Option.bind_eq_some_iff.mp H
       obtain ⟨t105, A130, H⟩ := H
       replace H : (if t105 = true then (some ((Int.tmod a1 2) == 0)) else (some false)) = some r := H
       have A13 := zz A130
       clear A130
       by_cases c14 : t105 = true
       ·subst c14
        have H1 : (some ((Int.tmod a1 2) == 0)) = some r := by rw [if_pos rfl] at H; exact H
        clear H
        have H := H1
        clear H1
        obtain rfl := Option.some.inj H
        go_wp2_with (first | ((with_reducible refine gate_callee (f := 64) rfl ?_); refine goesL_ (some 27) rfl rfl Try.func64 (by kernel_rfl) rfl #[.int .i64 a1, .int .i64 (-4096), .int .i64 4094] rfl zza ?_; (with_reducible refine (inst_between.calls a1 (-4096) 4094 true _ A13.out).mono ?_); rintro e w' ⟨rfl, ⟨nd, rfl⟩⟩; refine ⟨_, rfl, ?_⟩))
        go_ret
        exact ⟨zzh, zzd⟩
       ·replace c14 := Bool.eq_false_iff.mpr c14
        subst c14
        have H1 : (some false) = some r := by rw [if_neg (show ¬ (false = true) by decide)] at H; exact H
        clear H
        have H := H1
        clear H1
        obtain rfl := Option.some.inj H
        go_wp2_with (first | ((with_reducible refine gate_callee (f := 64) rfl ?_); refine goesL_ (some 27) rfl rfl Try.func64 (by kernel_rfl) rfl #[.int .i64 a1, .int .i64 (-4096), .int .i64 4094] rfl zza ?_; (with_reducible refine (inst_between.calls a1 (-4096) 4094 false _ A13.out).mono ?_); rintro e w' ⟨rfl, ⟨nd, rfl⟩⟩; refine ⟨_, rfl, ?_⟩))
        go_ret
        exact ⟨zzh, zzd⟩
      ·rw [if_neg c12] at H
       have c12b0 : (a0 == 66) = false := beq_eq_false_iff_ne.mpr c12
       have c12b1 : (a0 != 66) = true := bne_iff_ne.mpr c12
       by_cases c15 : a0 = 72
       ·rw [if_pos c15] at H
        have c15b0 : (a0 == 72) = true := beq_iff_eq.mpr c15
        have c15b1 : (a0 != 72) = false := bne_eq_false_iff_eq.mpr c15
        clear c15
        replace H := Option.bind_eq_some_iff.mp H
        obtain ⟨t106, A160, H⟩ := H
        replace H : (some t106) = some r := H
        have A16 := zz A160
        clear A160
        obtain rfl := Option.some.inj H
        go_wp2_with (first | ((with_reducible refine gate_callee (f := 64) rfl ?_); refine goesL_ (some 36) rfl rfl Try.func64 (by kernel_rfl) rfl #[.int .i64 a1, .int .i64 0, .int .i64 31] rfl zza ?_; (with_reducible refine (inst_between.calls a1 0 31 t106 _ A16.out).mono ?_); rintro e w' ⟨rfl, ⟨nd, rfl⟩⟩; refine ⟨_, rfl, ?_⟩))
        go_ret
        exact ⟨zzh, zzd⟩
       ·rw [if_neg c15] at H
        have c15b0 : (a0 == 72) = false := beq_eq_false_iff_ne.mpr c15
        have c15b1 : (a0 != 72) = true := bne_iff_ne.mpr c15
        obtain rfl := Option.some.inj H
        go_wp2
        go_ret
        exact ⟨zzh, zzd⟩
end Go.Proofs.Ytekenddkoahjgaa.Q
end
section
namespace Go.Proofs.Ytekenddkoahjgaa.Q
open Go.RowKit Go.Proofs.YtekenddkoahjgaaW.PrintWords Go.Proofs.YtekenddkoahjgaaW.PrintLast Go.Proofs.YtekenddkoahjgaaW.PrintMore
attribute [local go_sem] max2_int min2_int max_two min_two max_three min_three max_four min_four
attribute [local go_sem] imax_u32 imax_u8 isg_u32 isg_u8
set_option linter.unusedVariables false
set_option linter.unusedSimpArgs false
def inst_Right.f (k : Nat) (a0_0 : Int) (a0_1 : Int) (a0_2 : Int) (a0_3 : Int) (a0_4 : Int) : Option (Bool) := (inst_Form.f a0_0).bind fun t108 => ((inst_has.f k t108).bind fun bt109 => (if t108 = 0 then (some false) else ((inst_register.f bt109.1 a0_1).bind fun t112 => (if t112 = true then ((inst_register.f bt109.2.1 a0_2).bind fun t113 => (if t113 = true then ((inst_register.f bt109.2.2 a0_3).bind fun t114 => (if t114 = true then ((inst_number.f k t108 a0_4).bind fun t115 => (some t115)) else (some false))) else (some false))) else (some false)))))
theorem inst_Right.mono : ∀ a0 a1 a2 a3 a4 k, LeO (inst_Right.f k a0 a1 a2 a3 a4) (inst_Right.f (k + 1) a0 a1 a2 a3 a4) := by
 intro a0 a1 a2 a3 a4 k
 unfold inst_Right.f
 repeat' first
   | (with_reducible exact inst_has.mono _ _)
   | (with_reducible exact inst_number.mono _ _ _)
   | (with_reducible exact LeO.refl _)
   | (with_reducible exact LeO.none _)
   | (with_reducible refine LeO.ite ?_ ?_)
   | (with_reducible refine LeO.bind ?_ (fun _ => ?_))
   | exact inst_has.mono _ _
   | exact inst_number.mono _ _ _
   | exact LeO.none _
   | refine LeO.ite ?_ ?_
   | refine LeO.bind ?_ (fun _ => ?_)
set_option maxHeartbeats 8000000 in
set_option maxRecDepth 100000 in
theorem inst_Right.calls (k : Nat) (a0_0 : Int) (a0_1 : Int) (a0_2 : Int) (a0_3 : Int) (a0_4 : Int) (r : Bool) (w : World) (h : inst_Right.f k a0_0 a0_1 a0_2 a0_3 a0_4 = some r) :
  Calls Try.prog 27 #[.agg #[.int .i64 a0_0, .int .i64 a0_1, .int .i64 a0_2, .int .i64 a0_3, .int .i64 a0_4]] w fun e w' => e = .returned (.bool r) ∧ Below w.heap.size w w' := by
 have hu23 := Try.underlying23
 have HB := zz (Below.refl w.heap.size w)
 have H : ((inst_Form.f a0_0).bind fun t108 => ((inst_has.f k t108).bind fun bt109 => (if t108 = 0 then (some false) else ((inst_register.f bt109.1 a0_1).bind fun t112 => (if t112 = true then ((inst_register.f bt109.2.1 a0_2).bind fun t113 => (if t113 = true then ((inst_register.f bt109.2.2 a0_3).bind fun t114 => (if t114 = true then ((inst_number.f k t108 a0_4).bind fun t115 => (some t115)) else (some false))) else (some false))) else (some false)))))) = some r := h
 clear h
 replace H := Option.bind_eq_some_iff.mp H
 obtain ⟨t108, A20, H⟩ := H
 replace H : ((inst_has.f k t108).bind fun bt109 => (if t108 = 0 then (some false) else ((inst_register.f bt109.1 a0_1).bind fun t112 => (if t112 = true then ((inst_register.f bt109.2.1 a0_2).bind fun t113 => (if t113 = true then ((inst_register.f bt109.2.2 a0_3).bind fun t114 => (if t114 = true then ((inst_number.f k t108 a0_4).bind fun t115 => (some t115)) else (some false))) else (some false))) else (some false))))) = some r := H
 have A2 := zz A20
 clear A20
 replace H := Option.bind_eq_some_iff.mp H
 obtain ⟨⟨t109, t110, t111⟩, A30, H⟩ := H
 replace H : (if t108 = 0 then (some false) else ((inst_register.f t109 a0_1).bind fun t112 => (if t112 = true then ((inst_register.f t110 a0_2).bind fun t113 => (if t113 = true then ((inst_register.f t111 a0_3).bind fun t114 => (if t114 = true then ((inst_number.f k t108 a0_4).bind fun t115 => (some t115)) else (some false))) else (some false))) else (some false)))) = some r := H
 have A3 := zz A30
 clear A30
 by_cases c4 : t108 = 0
 ·rw [if_pos c4] at H
  have c4b0 : (t108 == 0) = true := beq_iff_eq.mpr c4
  have c4b1 : (t108 != 0) = false := bne_eq_false_iff_eq.mpr c4
  clear c4
  obtain rfl := Option.some.inj H
  go_enter Try.func27, Try.ntmps27
  go_wp2_with (first | ((with_reducible refine gate_dst (N := 1) rfl ?_); refine box_event ?hg (N := 1) ?hd (cs := #[.int .i64 a0_0, .int .i64 a0_1, .int .i64 a0_2, .int .i64 a0_3, .int .i64 a0_4]) (t := 23) ?hr ?_; (case hd => rfl); (case hg => rfl); (case hr => first | (go_simp; done) | (go_simp; rfl)); intro gb107 hg w5 hbox hb; have n0_ := zz (below_step zzb hb); have n1_ := zz (hbox); have n2_ := zz ((zzn hg : w.heap.size ≤ gb107)); have n3_ := zz ((zzn hg : w.heap.size ≤ gb107)); clear HB; have HB := n0_; have BK107 := n1_; have GW107 := n2_; have GE107 := n3_; clear n0_ n1_ n2_ n3_; clear hb hbox hg; obtain ⟨hcz6_0, hcz6_1, hcz6_2, hcz6_3, hcz6_4⟩ := zzc5 BK107.out (.int .i64 a0_0) (.int .i64 a0_1) (.int .i64 a0_2) (.int .i64 a0_3) (.int .i64 a0_4); obtain ⟨hfz6_0, hfz6_1, hfz6_2, hfz6_3, hfz6_4⟩ := zzf5 BK107.out) | ((with_reducible refine gate_callee (f := 26) rfl ?_); refine goesL_ (some 9) rfl rfl Try.func26 (by kernel_rfl) rfl #[.int .i64 a0_0] rfl zza ?_; (with_reducible refine (inst_Form.calls a0_0 t108 _ A2.out).mono ?_); rintro e w7 ⟨rfl, hb⟩; refine ⟨_, rfl, ?_⟩; have n0_ := zz (zzkb BK107.out hb); have n1_ := zz (below_step zzg hb); clear BK107; clear HB; have BK107 := n0_; have HB := n1_; clear n0_ n1_; (try clear hb); (try clear hb2); (try clear hk); (try clear hi)) | ((with_reducible refine gate_callee (f := 47) rfl ?_); refine goesL_ (some 12) rfl rfl Try.func47 (by kernel_rfl) rfl #[.int .u8 t108] rfl zza ?_; (with_reducible refine (inst_has.calls k t108 t109 t110 t111 _ A3.out).mono ?_); rintro e w' ⟨rfl, ⟨nd, rfl⟩⟩; refine ⟨_, rfl, ?_⟩))
  go_ret
  exact ⟨zze, zzg⟩
 ·rw [if_neg c4] at H
  have c4b0 : (t108 == 0) = false := beq_eq_false_iff_ne.mpr c4
  have c4b1 : (t108 != 0) = true := bne_iff_ne.mpr c4
  replace H := Option.bind_eq_some_iff.mp H
  obtain ⟨t112, A80, H⟩ := H
  replace H : (if t112 = true then ((inst_register.f t110 a0_2).bind fun t113 => (if t113 = true then ((inst_register.f t111 a0_3).bind fun t114 => (if t114 = true then ((inst_number.f k t108 a0_4).bind fun t115 => (some t115)) else (some false))) else (some false))) else (some false)) = some r := H
  have A8 := zz A80
  clear A80
  by_cases c9 : t112 = true
  ·subst c9
   have H1 : ((inst_register.f t110 a0_2).bind fun t113 => (if t113 = true then ((inst_register.f t111 a0_3).bind fun t114 => (if t114 = true then ((inst_number.f k t108 a0_4).bind fun t115 => (some t115)) else (some false))) else (some false))) = some r := by rw [if_pos rfl] at H; exact H
   clear H
   have H := H1
   clear H1
   replace H := Option.bind_eq_some_iff.mp H
   obtain ⟨t113, A100, H⟩ := H
   replace H : (if t113 = true then ((inst_register.f t111 a0_3).bind fun t114 => (if t114 = true then ((inst_number.f k t108 a0_4).bind fun t115 => (some t115)) else (some false))) else (some false)) = some r := H
   have A10 := zz A100
   clear A100
   by_cases c11 : t113 = true
   ·subst c11
    have H1 : ((inst_register.f t111 a0_3).bind fun t114 => (if t114 = true then ((inst_number.f k t108 a0_4).bind fun t115 => (some t115)) else (some false))) = some r := by rw [if_pos rfl] at H; exact H
    clear H
    have H := H1
    clear H1
    replace H := Option.bind_eq_some_iff.mp H
    obtain ⟨t114, A120, H⟩ := H
    replace H : (if t114 = true then ((inst_number.f k t108 a0_4).bind fun t115 => (some t115)) else (some false)) = some r := H
    have A12 := zz A120
    clear A120
    by_cases c13 : t114 = true
    ·subst c13
     have H1 : ((inst_number.f k t108 a0_4).bind fun t115 => (some t115)) = some r := by rw [if_pos rfl] at H; exact H
     clear H
     have H := H1
     clear H1
     replace H := Option.bind_eq_some_iff.mp H
     obtain ⟨t115, A140, H⟩ := H
     replace H : (some t115) = some r := H
     have A14 := zz A140
     clear A140
     obtain rfl := Option.some.inj H
     go_enter Try.func27, Try.ntmps27
     go_wp2_with (first | ((with_reducible refine gate_dst (N := 1) rfl ?_); refine box_event ?hg (N := 1) ?hd (cs := #[.int .i64 a0_0, .int .i64 a0_1, .int .i64 a0_2, .int .i64 a0_3, .int .i64 a0_4]) (t := 23) ?hr ?_; (case hd => rfl); (case hg => rfl); (case hr => first | (go_simp; done) | (go_simp; rfl)); intro gb107 hg w15 hbox hb; have n0_ := zz (below_step zzb hb); have n1_ := zz (hbox); have n2_ := zz ((zzn hg : w.heap.size ≤ gb107)); have n3_ := zz ((zzn hg : w.heap.size ≤ gb107)); clear HB; have HB := n0_; have BK107 := n1_; have GW107 := n2_; have GE107 := n3_; clear n0_ n1_ n2_ n3_; clear hb hbox hg; obtain ⟨hcz16_0, hcz16_1, hcz16_2, hcz16_3, hcz16_4⟩ := zzc5 BK107.out (.int .i64 a0_0) (.int .i64 a0_1) (.int .i64 a0_2) (.int .i64 a0_3) (.int .i64 a0_4); obtain ⟨hfz16_0, hfz16_1, hfz16_2, hfz16_3, hfz16_4⟩ := zzf5 BK107.out) | ((with_reducible refine gate_callee (f := 26) rfl ?_); refine goesL_ (some 9) rfl rfl Try.func26 (by kernel_rfl) rfl #[.int .i64 a0_0] rfl zza ?_; (with_reducible refine (inst_Form.calls a0_0 t108 _ A2.out).mono ?_); rintro e w17 ⟨rfl, hb⟩; refine ⟨_, rfl, ?_⟩; have n0_ := zz (zzkb BK107.out hb); have n1_ := zz (below_step zzg hb); clear BK107; clear HB; have BK107 := n0_; have HB := n1_; clear n0_ n1_; (try clear hb); (try clear hb2); (try clear hk); (try clear hi)) | ((with_reducible refine gate_callee (f := 47) rfl ?_); refine goesL_ (some 12) rfl rfl Try.func47 (by kernel_rfl) rfl #[.int .u8 t108] rfl zza ?_; (with_reducible refine (inst_has.calls k t108 t109 t110 t111 _ A3.out).mono ?_); rintro e w' ⟨rfl, ⟨nd, rfl⟩⟩; refine ⟨_, rfl, ?_⟩; obtain ⟨hcz18_0, hcz18_1, hcz18_2, hcz18_3, hcz18_4⟩ := zzc5 BK107.out (.int .i64 a0_0) (.int .i64 a0_1) (.int .i64 a0_2) (.int .i64 a0_3) (.int .i64 a0_4); obtain ⟨hfz18_0, hfz18_1, hfz18_2, hfz18_3, hfz18_4⟩ := zzf5 BK107.out) | (go_at_call 48; (with_reducible refine (inst_register.calls t109 a0_1 true _ A8.out).mono ?_); rintro e w' ⟨rfl, ⟨nd, rfl⟩⟩) | (go_at_call 48; (with_reducible refine (inst_register.calls t110 a0_2 true _ A10.out).mono ?_); rintro e w' ⟨rfl, ⟨nd, rfl⟩⟩) | (go_at_call 48; (with_reducible refine (inst_register.calls t111 a0_3 true _ A12.out).mono ?_); rintro e w' ⟨rfl, ⟨nd, rfl⟩⟩) | (go_at_call 49; (with_reducible refine (inst_number.calls k t108 a0_4 t115 _ A14.out).mono ?_); rintro e w' ⟨rfl, ⟨nd, rfl⟩⟩))
     go_ret
     exact ⟨zze, zzg⟩
    ·replace c13 := Bool.eq_false_iff.mpr c13
     subst c13
     have H1 : (some false) = some r := by rw [if_neg (show ¬ (false = true) by decide)] at H; exact H
     clear H
     have H := H1
     clear H1
     obtain rfl := Option.some.inj H
     go_enter Try.func27, Try.ntmps27
     go_wp2_with (first | ((with_reducible refine gate_dst (N := 1) rfl ?_); refine box_event ?hg (N := 1) ?hd (cs := #[.int .i64 a0_0, .int .i64 a0_1, .int .i64 a0_2, .int .i64 a0_3, .int .i64 a0_4]) (t := 23) ?hr ?_; (case hd => rfl); (case hg => rfl); (case hr => first | (go_simp; done) | (go_simp; rfl)); intro gb107 hg w19 hbox hb; have n0_ := zz (below_step zzb hb); have n1_ := zz (hbox); have n2_ := zz ((zzn hg : w.heap.size ≤ gb107)); have n3_ := zz ((zzn hg : w.heap.size ≤ gb107)); clear HB; have HB := n0_; have BK107 := n1_; have GW107 := n2_; have GE107 := n3_; clear n0_ n1_ n2_ n3_; clear hb hbox hg; obtain ⟨hcz20_0, hcz20_1, hcz20_2, hcz20_3, hcz20_4⟩ := zzc5 BK107.out (.int .i64 a0_0) (.int .i64 a0_1) (.int .i64 a0_2) (.int .i64 a0_3) (.int .i64 a0_4); obtain ⟨hfz20_0, hfz20_1, hfz20_2, hfz20_3, hfz20_4⟩ := zzf5 BK107.out) | ((with_reducible refine gate_callee (f := 26) rfl ?_); refine goesL_ (some 9) rfl rfl Try.func26 (by kernel_rfl) rfl #[.int .i64 a0_0] rfl zza ?_; (with_reducible refine (inst_Form.calls a0_0 t108 _ A2.out).mono ?_); rintro e w21 ⟨rfl, hb⟩; refine ⟨_, rfl, ?_⟩; have n0_ := zz (zzkb BK107.out hb); have n1_ := zz (below_step zzg hb); clear BK107; clear HB; have BK107 := n0_; have HB := n1_; clear n0_ n1_; (try clear hb); (try clear hb2); (try clear hk); (try clear hi)) | ((with_reducible refine gate_callee (f := 47) rfl ?_); refine goesL_ (some 12) rfl rfl Try.func47 (by kernel_rfl) rfl #[.int .u8 t108] rfl zza ?_; (with_reducible refine (inst_has.calls k t108 t109 t110 t111 _ A3.out).mono ?_); rintro e w' ⟨rfl, ⟨nd, rfl⟩⟩; refine ⟨_, rfl, ?_⟩; obtain ⟨hcz22_0, hcz22_1, hcz22_2, hcz22_3, hcz22_4⟩ := zzc5 BK107.out (.int .i64 a0_0) (.int .i64 a0_1) (.int .i64 a0_2) (.int .i64 a0_3) (.int .i64 a0_4); obtain ⟨hfz22_0, hfz22_1, hfz22_2, hfz22_3, hfz22_4⟩ := zzf5 BK107.out) | (go_at_call 48; (with_reducible refine (inst_register.calls t109 a0_1 true _ A8.out).mono ?_); rintro e w' ⟨rfl, ⟨nd, rfl⟩⟩) | (go_at_call 48; (with_reducible refine (inst_register.calls t110 a0_2 true _ A10.out).mono ?_); rintro e w' ⟨rfl, ⟨nd, rfl⟩⟩) | (go_at_call 48; (with_reducible refine (inst_register.calls t111 a0_3 false _ A12.out).mono ?_); rintro e w' ⟨rfl, ⟨nd, rfl⟩⟩))
     go_ret
     exact ⟨zze, zzg⟩
   ·replace c11 := Bool.eq_false_iff.mpr c11
    subst c11
    have H1 : (some false) = some r := by rw [if_neg (show ¬ (false = true) by decide)] at H; exact H
    clear H
    have H := H1
    clear H1
    obtain rfl := Option.some.inj H
    go_enter Try.func27, Try.ntmps27
    go_wp2_with (first | ((with_reducible refine gate_dst (N := 1) rfl ?_); refine box_event ?hg (N := 1) ?hd (cs := #[.int .i64 a0_0, .int .i64 a0_1, .int .i64 a0_2, .int .i64 a0_3, .int .i64 a0_4]) (t := 23) ?hr ?_; (case hd => rfl); (case hg => rfl); (case hr => first | (go_simp; done) | (go_simp; rfl)); intro gb107 hg w23 hbox hb; have n0_ := zz (below_step zzb hb); have n1_ := zz (hbox); have n2_ := zz ((zzn hg : w.heap.size ≤ gb107)); have n3_ := zz ((zzn hg : w.heap.size ≤ gb107)); clear HB; have HB := n0_; have BK107 := n1_; have GW107 := n2_; have GE107 := n3_; clear n0_ n1_ n2_ n3_; clear hb hbox hg; obtain ⟨hcz24_0, hcz24_1, hcz24_2, hcz24_3, hcz24_4⟩ := zzc5 BK107.out (.int .i64 a0_0) (.int .i64 a0_1) (.int .i64 a0_2) (.int .i64 a0_3) (.int .i64 a0_4); obtain ⟨hfz24_0, hfz24_1, hfz24_2, hfz24_3, hfz24_4⟩ := zzf5 BK107.out) | ((with_reducible refine gate_callee (f := 26) rfl ?_); refine goesL_ (some 9) rfl rfl Try.func26 (by kernel_rfl) rfl #[.int .i64 a0_0] rfl zza ?_; (with_reducible refine (inst_Form.calls a0_0 t108 _ A2.out).mono ?_); rintro e w25 ⟨rfl, hb⟩; refine ⟨_, rfl, ?_⟩; have n0_ := zz (zzkb BK107.out hb); have n1_ := zz (below_step zzg hb); clear BK107; clear HB; have BK107 := n0_; have HB := n1_; clear n0_ n1_; (try clear hb); (try clear hb2); (try clear hk); (try clear hi)) | ((with_reducible refine gate_callee (f := 47) rfl ?_); refine goesL_ (some 12) rfl rfl Try.func47 (by kernel_rfl) rfl #[.int .u8 t108] rfl zza ?_; (with_reducible refine (inst_has.calls k t108 t109 t110 t111 _ A3.out).mono ?_); rintro e w' ⟨rfl, ⟨nd, rfl⟩⟩; refine ⟨_, rfl, ?_⟩; obtain ⟨hcz26_0, hcz26_1, hcz26_2, hcz26_3, hcz26_4⟩ := zzc5 BK107.out (.int .i64 a0_0) (.int .i64 a0_1) (.int .i64 a0_2) (.int .i64 a0_3) (.int .i64 a0_4); obtain ⟨hfz26_0, hfz26_1, hfz26_2, hfz26_3, hfz26_4⟩ := zzf5 BK107.out) | (go_at_call 48; (with_reducible refine (inst_register.calls t109 a0_1 true _ A8.out).mono ?_); rintro e w' ⟨rfl, ⟨nd, rfl⟩⟩) | (go_at_call 48; (with_reducible refine (inst_register.calls t110 a0_2 false _ A10.out).mono ?_); rintro e w' ⟨rfl, ⟨nd, rfl⟩⟩))
    go_ret
    exact ⟨zze, zzg⟩
  ·replace c9 := Bool.eq_false_iff.mpr c9
   subst c9
   have H1 : (some false) = some r := by rw [if_neg (show ¬ (false = true) by decide)] at H; exact H
   clear H
   have H := H1
   clear H1
   obtain rfl := Option.some.inj H
   go_enter Try.func27, Try.ntmps27
   go_wp2_with (first | ((with_reducible refine gate_dst (N := 1) rfl ?_); refine box_event ?hg (N := 1) ?hd (cs := #[.int .i64 a0_0, .int .i64 a0_1, .int .i64 a0_2, .int .i64 a0_3, .int .i64 a0_4]) (t := 23) ?hr ?_; (case hd => rfl); (case hg => rfl); (case hr => first | (go_simp; done) | (go_simp; rfl)); intro gb107 hg w27 hbox hb; have n0_ := zz (below_step zzb hb); have n1_ := zz (hbox); have n2_ := zz ((zzn hg : w.heap.size ≤ gb107)); have n3_ := zz ((zzn hg : w.heap.size ≤ gb107)); clear HB; have HB := n0_; have BK107 := n1_; have GW107 := n2_; have GE107 := n3_; clear n0_ n1_ n2_ n3_; clear hb hbox hg; obtain ⟨hcz28_0, hcz28_1, hcz28_2, hcz28_3, hcz28_4⟩ := zzc5 BK107.out (.int .i64 a0_0) (.int .i64 a0_1) (.int .i64 a0_2) (.int .i64 a0_3) (.int .i64 a0_4); obtain ⟨hfz28_0, hfz28_1, hfz28_2, hfz28_3, hfz28_4⟩ := zzf5 BK107.out) | ((with_reducible refine gate_callee (f := 26) rfl ?_); refine goesL_ (some 9) rfl rfl Try.func26 (by kernel_rfl) rfl #[.int .i64 a0_0] rfl zza ?_; (with_reducible refine (inst_Form.calls a0_0 t108 _ A2.out).mono ?_); rintro e w29 ⟨rfl, hb⟩; refine ⟨_, rfl, ?_⟩; have n0_ := zz (zzkb BK107.out hb); have n1_ := zz (below_step zzg hb); clear BK107; clear HB; have BK107 := n0_; have HB := n1_; clear n0_ n1_; (try clear hb); (try clear hb2); (try clear hk); (try clear hi)) | ((with_reducible refine gate_callee (f := 47) rfl ?_); refine goesL_ (some 12) rfl rfl Try.func47 (by kernel_rfl) rfl #[.int .u8 t108] rfl zza ?_; (with_reducible refine (inst_has.calls k t108 t109 t110 t111 _ A3.out).mono ?_); rintro e w' ⟨rfl, ⟨nd, rfl⟩⟩; refine ⟨_, rfl, ?_⟩; obtain ⟨hcz30_0, hcz30_1, hcz30_2, hcz30_3, hcz30_4⟩ := zzc5 BK107.out (.int .i64 a0_0) (.int .i64 a0_1) (.int .i64 a0_2) (.int .i64 a0_3) (.int .i64 a0_4); obtain ⟨hfz30_0, hfz30_1, hfz30_2, hfz30_3, hfz30_4⟩ := zzf5 BK107.out) | (go_at_call 48; (with_reducible refine (inst_register.calls t109 a0_1 false _ A8.out).mono ?_); rintro e w' ⟨rfl, ⟨nd, rfl⟩⟩))
   go_ret
   exact ⟨zze, zzg⟩
def word_may.f (a0 : Int) (a1 : Int) : Option (Bool) := if a0 ≥ 0 then (if a0 < 32 then (if a1 ≥ 1 then (some (decide (a1 ≤ (wrap64 (32 - a0))))) else (some false)) else (some false)) else (some false)
set_option maxHeartbeats 8000000 in
set_option maxRecDepth 100000 in
theorem word_may.calls (a0 : Int) (a1 : Int) (r : Bool) (w : World) (h : word_may.f a0 a1 = some r) :
  Calls Try.prog 93 #[.int .i64 a0, .int .i64 a1] w fun e w' => e = .returned (.bool r) ∧ Drawn0 w w' := by
 have H : (if a0 ≥ 0 then (if a0 < 32 then (if a1 ≥ 1 then (some (decide (a1 ≤ (wrap64 (32 - a0))))) else (some false)) else (some false)) else (some false)) = some r := h
 clear h
 by_cases c3 : a0 ≥ 0
 ·rw [if_pos c3] at H
  have c3b0 : decide (0 ≤ a0) = true := decide_eq_true c3
  clear c3
  by_cases c4 : a0 < 32
  ·rw [if_pos c4] at H
   have c4b0 : decide (a0 < 32) = true := decide_eq_true c4
   clear c4
   by_cases c5 : a1 ≥ 1
   ·rw [if_pos c5] at H
    have c5b0 : decide (1 ≤ a1) = true := decide_eq_true c5
    clear c5
    obtain rfl := Option.some.inj H
    go_enter Try.func93, Try.ntmps93
    go_wp2
    go_ret
    exact ⟨zzh, zzd⟩
   ·rw [if_neg c5] at H
    have c5b0 : decide (1 ≤ a1) = false := decide_eq_false c5
    clear c5
    obtain rfl := Option.some.inj H
    go_enter Try.func93, Try.ntmps93
    go_wp2
    go_ret
    exact ⟨zzh, zzd⟩
  ·rw [if_neg c4] at H
   have c4b0 : decide (a0 < 32) = false := decide_eq_false c4
   clear c4
   obtain rfl := Option.some.inj H
   go_enter Try.func93, Try.ntmps93
   go_wp2
   go_ret
   exact ⟨zzh, zzd⟩
 ·rw [if_neg c3] at H
  have c3b0 : decide (0 ≤ a0) = false := decide_eq_false c3
  clear c3
  obtain rfl := Option.some.inj H
  go_enter Try.func93, Try.ntmps93
  go_wp2
  go_ret
  exact ⟨zzh, zzd⟩
def word_mask.l0 : Nat → Int → Int → Int → Option (Int)
 | 0, _, _, _ => none
 | k + 1, x3, x4, x5 => if x5 < x4 then (word_mask.l0 k (Go.bits .or .u32 ((x3 * 2) % 4294967296) 1) x4 (wrap64 (x5 + 1))) else (some x3)
def word_mask.f (k : Nat) (a0 : Int) : Option (Int) := word_mask.l0 k 0 a0 0
theorem word_mask.mono_l : ∀ k, (∀ y0 y1 y2, LeO (word_mask.l0 k y0 y1 y2) (word_mask.l0 (k + 1) y0 y1 y2))
 | 0 => fun _ _ _ r h => by simp [word_mask.l0] at h
 | k + 1 => by
  have ih0 := word_mask.mono_l k
  ·intro y0 y1 y2
   unfold word_mask.l0
   repeat' first
   | (with_reducible exact ih0 _ _ _)
   | (with_reducible exact LeO.refl _)
   | (with_reducible exact LeO.none _)
   | (with_reducible refine LeO.ite ?_ ?_)
   | (with_reducible refine LeO.bind ?_ (fun _ => ?_))
   | exact ih0 _ _ _
   | exact LeO.none _
   | refine LeO.ite ?_ ?_
   | refine LeO.bind ?_ (fun _ => ?_)
theorem word_mask.mono : ∀ a0 k, LeO (word_mask.f k a0) (word_mask.f (k + 1) a0) := by
 intro a0 k
 have ih0 := word_mask.mono_l k
 unfold word_mask.f
 repeat' first
   | (with_reducible exact ih0 _ _ _)
   | (with_reducible exact LeO.refl _)
   | (with_reducible exact LeO.none _)
   | (with_reducible refine LeO.ite ?_ ?_)
   | (with_reducible refine LeO.bind ?_ (fun _ => ?_))
   | exact ih0 _ _ _
   | exact LeO.none _
   | refine LeO.ite ?_ ?_
   | refine LeO.bind ?_ (fun _ => ?_)
set_option maxHeartbeats 8000000 in
set_option maxRecDepth 100000 in
theorem word_mask.calls (k : Nat) (a0 : Int) (r : Int) (w : World) (h : word_mask.f k a0 = some r) :
  Calls Try.prog 94 #[.int .i64 a0] w fun e w' => e = .returned (.int .u32 r) ∧ Drawn0 w w' := by
 have H : (word_mask.l0 k 0 a0 0) = some r := h
 clear h
 have H' := zz H
 clear H
 go_enter Try.func94, Try.ntmps94
 go_wp2
 go_loopg [3, 5] k (fun kq v3 v5 w' => ∃ (x3_1 : Int) (x5_1 : Int), v3 = .int .u32 x3_1 ∧ v5 = .int .i64 x5_1 ∧ Aside0 (word_mask.l0 kq x3_1 a0 x5_1 = some r) ∧ Aside0 (kq ≤ k) ∧ Drawn0 w w')
 case atStart => exact ⟨(0), (0), (zzh), (zzh), H', ⟨Nat.le_refl _⟩, zzd⟩
 case round =>
  clear H'
  obtain ⟨x3_1, x5_1, rfl, rfl, HA, HK1, ⟨m1, rfl⟩⟩ := hrel
  cases gk with
  | zero => exact absurd HA.out (by simp [word_mask.l0])
  | succ k1 =>
   have H := HA.out
   clear HA
   simp only [word_mask.l0] at H
   by_cases c2 : x5_1 < a0
   ·rw [if_pos c2] at H
    have c2b0 : decide (x5_1 < a0) = true := decide_eq_true c2
    clear c2
    have H' := zz H
    clear H
    go_wp2
    go_roundg k1
    case measure => have := HK1.out; omega
    case rel => exact ⟨(Go.bits .or .u32 ((x3_1 * 2) % 4294967296) 1), (wrap64 (x5_1 + 1)), (zzh), (zzh), H', ⟨by have := HK1.out; omega⟩, zzd⟩
   ·rw [if_neg c2] at H
    have c2b0 : decide (x5_1 < a0) = false := decide_eq_false c2
    clear c2
    obtain rfl := Option.some.inj H
    go_wp2
    go_ret
    exact ⟨zzh, zzd⟩
end Go.Proofs.Ytekenddkoahjgaa.Q
end
