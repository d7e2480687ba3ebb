import Derived.Test.YtekenddkoahjgaaHBA
import Derived.WalkKit
import Derived.KernelRfl
import Derived.Below
import Derived.Outline
import Derived.LoopTactic
import Derived.Maps.Own
import Derived.Maps.OwnOps
import Derived.Maps.OwnSet
import Derived.Maps.Views
import Derived.Maps.AppendAt
import Derived.Laws.BitsLemmas
import Derived.Laws.BitsAllLaws
import Derived.Deep.LoopGhost
import Derived.Lib.Hide
import Derived.Deep.QuietTactic
import Derived.BigQuiet
import Derived.Deep.Draws
import Derived.Laws.StructEq
import Derived.Deep.Slices
import Derived.Deep.Fields
import Derived.ChangeSame
import Derived.Deep.CutBlock
import Derived.Deep.DeepCutAuto
import Derived.Deep.RegionHeld3
import Derived.StillTailTactics
import Derived.WalkSmall
import Derived.OwnWalk
import Derived.Laws.OwnMore
import Derived.Laws.BytesArg
import Derived.Laws.MakeOwn
import Derived.Laws.Tables
import Derived.Laws.Rows
import Derived.Laws.World
import Derived.Lib.SliceRun
/- Layer 8, walked: blocks.After. -/
namespace Go.Proofs.Ytekenddkoahjgaa.Bl
open Go.RowKit Go.Maps Go.Proofs
set_option maxRecDepth 100000
set_option linter.unusedVariables false
set_option linter.unusedSimpArgs false
abbrev Ins := Int × Int × Int × Int × Int
def tov (x : Ins) (a : Nat) : Nat := (((a : Int) + x.2.2.2.2) % 4294967296).toNat
def nextv (a : Nat) : Nat := (a + 4) % 4294967296
def dd (x y : Nat) : List Nat := if x < y then [x, y] else if y < x then [y, x] else [x]
def aftv (frm : Int → Int) (rgt : Ins → Bool) (x : Ins) (a : Nat) : List Nat :=
 if rgt x = false ∨ x.1 = 46 then []
 else if x.1 = 2 ∧ x.2.1 = 0 then [tov x a]
 else if x.1 = 2 ∨ frm x.1 = 66 then dd (tov x a) (nextv a)
 else if x.1 = 3 ∧ x.2.1 = 0 then []
 else [nextv a]
def endv (frm : Int → Int) (rgt : Ins → Bool) (x : Ins) : Bool := !rgt x || decide (frm x.1 = 66) || decide (x.1 = 2) || decide (x.1 = 3) || decide (x.1 = 46)
def wordv (base : Nat) (ws : List Nat) (a : Nat) : Option Nat :=
 if a % 4 = 0 ∧ base ≤ a ∧ (a - base) % 4 = 0 then ws[(a - base) / 4]? else none
def ins0 : Ins := (0, 0, 0, 0, 0)
def insv (dec : Nat → Ins × Int) (base : Nat) (ws : List Nat) (a : Nat) : Ins × Int :=
 match wordv base ws a with
 | none => (ins0, 81)
 | some v => if (dec v).2 ≠ 0 then (ins0, 80) else ((dec v).1, 0)
structure RS where
 left : List Nat
 seen : List Nat
 lead : List Nat
 bad : List Nat
section
variable (I : Nat → Ins × Int) (aft : Ins → Nat → List Nat) (nd : Ins → Bool)
def rstep (s : RS) : RS :=
 match s.left with
 | [] => s
 | a :: l =>
  if a ∈ s.seen then { s with left := l }
  else if (I a).2 ≠ 0 then { s with left := l, bad := if a ∈ s.bad then s.bad else a :: s.bad }
  else { left := (aft (I a).1 a).reverse ++ l, seen := a :: s.seen, lead := if nd (I a).1 = true then (aft (I a).1 a).reverse ++ s.lead else s.lead, bad := s.bad }
def rrun : Nat → RS → RS
 | 0, s => s
 | n + 1, s => rrun n (rstep I aft nd s)
def bump (l : List (Nat × Nat)) : List (Nat × Nat) := l.dropLast ++ [((l.getLastD (0, 0)).1, (l.getLastD (0, 0)).2 + 1)]
def bstep (lead : List Nat) (s : List (Nat × Nat) × Bool × Nat) (a : Nat) : List (Nat × Nat) × Bool × Nat :=
 (bump (if s.2.1 = false ∨ a ∈ lead ∨ a ≠ nextv s.2.2 then s.1 ++ [(a, 0)] else s.1), !nd (I a).1, a)
def ins1 (a : Nat) : List Nat → List Nat
 | [] => [a]
 | b :: l => if a ≤ b then a :: b :: l else b :: ins1 a l
def sortv (l : List Nat) : List Nat := l.foldr ins1 []
def rs0 (entry : Nat) (es : List Nat) : RS := ⟨entry :: es.reverse, [], es.reverse ++ [entry], []⟩
def findv (n : Nat) (entry : Nat) (es : List Nat) : List (Nat × Nat) × Int :=
 match sortv (rrun I aft nd n (rs0 entry es)).bad with
 | b :: _ => ([], (I b).2)
 | [] => (((sortv (rrun I aft nd n (rs0 entry es)).seen).foldl (bstep I nd (rrun I aft nd n (rs0 entry es)).lead) ([], false, 0)).1, 0)
end
abbrev iv (x : Ins) : Value := .agg #[.int .i64 x.1, .int .i64 x.2.1, .int .i64 x.2.2.1, .int .i64 x.2.2.2.1, .int .i64 x.2.2.2.2]
abbrev FormC (frm : Int → Int) : Prop := ∀ op w, Calls Try.prog 26 #[.int .i64 op] w fun e w' => e = .returned (.int .u8 (frm op)) ∧ Below w.heap.size w w'
abbrev RightC (rgt : Ins → Bool) : Prop := ∀ op rd a b m w, Calls Try.prog 27 #[iv (op, rd, a, b, m)] w fun e w' => e = .returned (.bool (rgt (op, rd, a, b, m))) ∧ Below w.heap.size w w'
theorem row1 (w : World) (x : Nat) : OwnU (w.alloc (.cells #[.int .u32 (x : Int)] 24)) w.heap.size (.slice (some ⟨w.heap.size, 0, none⟩) 1 1) [x] := OwnU.lit w w.heap.size [x] (Nat.le_refl _) (by simp [maxLen])
theorem row2 (w : World) (x y : Nat) : OwnU (w.alloc (.cells #[.int .u32 (x : Int), .int .u32 (y : Int)] 24)) w.heap.size (.slice (some ⟨w.heap.size, 0, none⟩) 2 2) [x, y] := OwnU.lit w w.heap.size [x, y] (Nat.le_refl _) (by simp [maxLen])
theorem ins1_perm (a : Nat) (l : List Nat) : (ins1 a l).Perm (a :: l) := by
 induction l with
 | nil => exact List.Perm.refl _
 | cons b l ih =>
  unfold ins1
  split
  ·exact List.Perm.refl _
  ·exact (List.Perm.cons b ih).trans (List.Perm.swap a b l)
theorem sortv_perm (l : List Nat) : (sortv l).Perm l := by
 induction l with
 | nil => exact List.Perm.refl _
 | cons a l ih => exact (ins1_perm a _).trans (List.Perm.cons a ih)
theorem ins1_sorted (a : Nat) (l : List Nat) (h : l.Pairwise (fun x y => x ≤ y)) : (ins1 a l).Pairwise (fun x y => x ≤ y) := by
 induction l with
 | nil => simp [ins1]
 | cons b l ih =>
  rw [List.pairwise_cons] at h
  unfold ins1
  split
  ·rename_i hab
   refine List.pairwise_cons.2 ⟨fun x hx => ?_, List.pairwise_cons.2 h⟩
   rcases List.mem_cons.1 hx with rfl | hx
   ·exact hab
   ·exact Nat.le_trans hab (h.1 x hx)
  ·rename_i hab
   refine List.pairwise_cons.2 ⟨fun x hx => ?_, ih h.2⟩
   rcases List.mem_cons.1 ((ins1_perm a l).mem_iff.1 hx) with rfl | hx
   ·omega
   ·exact h.1 x hx
theorem sortv_sorted (l : List Nat) : (sortv l).Pairwise (fun x y => x ≤ y) := by
 induction l with
 | nil => exact List.Pairwise.nil
 | cons a l ih => exact ins1_sorted a _ ih
theorem sortv_length (l : List Nat) : (sortv l).length = l.length := (sortv_perm l).length_eq
theorem merge_sortv (l : List Nat) (ss : List Int) (hp : ss.Perm (l.map (fun x : Nat => (x : Int)))) : ss.mergeSort (fun x y => decide (x ≤ y)) = (sortv l).map (fun x : Nat => (x : Int)) := by
 have h1 := List.mergeSort_perm ss (fun x y => decide (x ≤ y))
 have h2 : (ss.mergeSort (fun x y => decide (x ≤ y))).Pairwise (fun x y => x ≤ y) :=
  (List.pairwise_mergeSort (le := fun x y : Int => decide (x ≤ y)) (fun a b c h1 h2 => by simp only [decide_eq_true_eq] at *; omega) (fun a b => by simp only [Bool.or_eq_true, decide_eq_true_eq]; omega) ss).imp (fun h => of_decide_eq_true h)
 have h3 : ((sortv l).map (fun x : Nat => (x : Int))).Pairwise (fun x y => x ≤ y) := List.pairwise_map.2 ((sortv_sorted l).imp (fun h => by omega))
 exact List.Perm.eq_of_pairwise (le := fun x y => x ≤ y) (fun a b _ _ h1 h2 => by omega) h2 h3 (h1.trans (hp.trans ((sortv_perm l).map _).symm))
theorem map_uc (l : List Nat) : (l.map (fun x : Nat => (x : Int))).map (Value.int .u32) = l.map uc := by
 rw [List.map_map]
 rfl
theorem Sort_c (base g cap : Nat) (l : List Nat) (w : World) (h : OwnU w base (.slice (some ⟨g, 0, none⟩) l.length cap) l) (hl : l.length < 1000000) :
  Calls Try.prog 28 #[.slice (some ⟨g, 0, none⟩) l.length cap] w fun e w' => e = .returned (.tuple #[]) ∧ OwnU w' base (.slice (some ⟨g, 0, none⟩) l.length cap) (sortv l) ∧ w.grownBy w' (some g) := by
 rcases h.2 with ⟨h1, _⟩ | ⟨g', cap', cur, e, h3, h4, h5, h6, h7, h8⟩
 ·cases h1
 injection e with e1 e2 e3
 injection e1 with e1
 injection e1 with e1
 subst e1 e3
 have hz : (l.map (fun x : Nat => (x : Int))).length = l.length := List.length_map _
 have hH : Go.Sort.Holds (Value.int .u32) w g 0 (l.map (fun x : Nat => (x : Int))).toArray := It.holds_of_block_u h4 (by rw [hz]; rw [Nat.mul_one] at h8; rw [h8]; exact (map_uc l).symm)
 have hc := Srt.slices_Sort g 0 cap (l.map (fun x : Nat => (x : Int))) w hH (Array.getElem?_eq_some_iff.1 h4).1 (by rw [hz]; omega)
 rw [hz] at hc
 refine hc.mono ?_
 rintro e w' ⟨rfl, n, os, rfl⟩
 rw [merge_sortv l _ (List.Perm.refl _)]
 refine ⟨rfl, ?_, It.grownBy_sorted_u _⟩
 have ho := It.ownsRow_sorted_u (os := os) (n := n) (ss := l.map (fun x : Nat => (x : Int))) (ts := (sortv l).map (fun x : Nat => (x : Int))) (by simp [sortv_length]) h3 h4 (by rw [hz]; exact h5) h6 h7
 rw [hz] at ho
 have e2 : ((sortv l).map (fun x : Nat => (x : Int))).map It.encK = (sortv l).map uc := map_uc _
 rw [e2] at ho
 show World.ownsRow _ base _ 1 _ (sortv l).length _
 rw [sortv_length]
 exact ho
theorem Compact_c (base g cap x y : Nat) (w : World) (h : OwnU w base (.slice (some ⟨g, 0, none⟩) 2 cap) (sortv [x, y])) :
  Calls Try.prog 29 #[.slice (some ⟨g, 0, none⟩) 2 cap] w fun e w' => ∃ n, e = .returned (.slice (some ⟨g, 0, none⟩) n cap) ∧ OwnU w' base (.slice (some ⟨g, 0, none⟩) n cap) (dd x y) ∧ w.grownBy w' (some g) := by
 unfold dd
 by_cases h1 : x < y
 ·rw [if_pos h1]
  have e : sortv [x, y] = [x, y] := by simp [sortv, ins1]; omega
  rw [e] at h
  refine (Compact2 base g cap x y w (by omega) h).mono ?_
  rintro e w' ⟨rfl, n, rfl⟩
  exact ⟨2, rfl, h, ⟨rfl, rfl, rfl, Nat.le_refl _, fun _ _ _ => rfl⟩⟩
 rw [if_neg h1]
 by_cases h2 : y < x
 ·rw [if_pos h2]
  have e : sortv [x, y] = [y, x] := by simp [sortv, ins1]; omega
  rw [e] at h
  refine (Compact2 base g cap y x w (by omega) h).mono ?_
  rintro e w' ⟨rfl, n, rfl⟩
  exact ⟨2, rfl, h, ⟨rfl, rfl, rfl, Nat.le_refl _, fun _ _ _ => rfl⟩⟩
 rw [if_neg h2]
 obtain rfl : x = y := by omega
 have e : sortv [x, x] = [x, x] := by simp [sortv, ins1]
 rw [e] at h
 refine (Compact2e base g cap x w h).mono ?_
 rintro e w' ⟨rfl, h1, h2⟩
 exact ⟨1, rfl, h1, h2⟩
theorem cells5 {w : World} {g : Nat} {x : Ins} {t : TypeId} {fr : Nat × Nat} (h : w.heap[g]? = some (.cells #[.int .i64 x.1, .int .i64 x.2.1, .int .i64 x.2.2.1, .int .i64 x.2.2.2.1, .int .i64 x.2.2.2.2] t fr)) :
  w.cell? ⟨g, 0, none⟩ = some (.int .i64 x.1) ∧ w.cell? ⟨g, 1, none⟩ = some (.int .i64 x.2.1) ∧ w.cell? ⟨g, 2, none⟩ = some (.int .i64 x.2.2.1) ∧ w.cell? ⟨g, 3, none⟩ = some (.int .i64 x.2.2.2.1) ∧ w.cell? ⟨g, 4, none⟩ = some (.int .i64 x.2.2.2.2) := by
 simp [World.cell?, h]
set_option maxHeartbeats 4000000 in
theorem After_calls (frm : Int → Int) (rgt : Ins → Bool) (formC : FormC frm) (rightC : RightC rgt) (op rd u v m : Int) (a : Nat) (w : World) (A : List Nat) (hA : A = aftv frm rgt (op, rd, u, v, m) a) :
  Calls Try.prog 13 #[iv (op, rd, u, v, m), .int .u32 (a : Int)] w fun e w' => ∃ v, e = .returned v ∧ OwnU w' w.heap.size v A ∧ Below w.heap.size w w' := by
 obtain ⟨r, hr⟩ : ∃ r, rgt (op, rd, u, v, m) = r := ⟨_, rfl⟩
 obtain ⟨T, hT⟩ : ∃ T : Nat, tov (op, rd, u, v, m) a = T := ⟨_, rfl⟩
 obtain ⟨U, hU⟩ : ∃ U : Nat, nextv a = U := ⟨_, rfl⟩
 have eT : ((a : Int) + m) % 4294967296 = (T : Int) := by rw [← hT]; unfold tov; simp only; omega
 have eU : ((a : Int) + 4) % 4294967296 = (U : Int) := by rw [← hU]; unfold nextv; omega
 have HT := Lib.hid hT
 have HU := Lib.hid hU
 have HA := Lib.hid hA
 have HR := Lib.hid hr
 have FC := Lib.hid formC
 have RC := Lib.hid rightC
 clear hr formC rightC hT hU hA
 go_enter Try.func13, Try.ntmps13
 go_wp2_with (go_at_call 26; refine hold_ ?_)
 intro _
 refine (FC.out _ _).mono ?_
 rintro e w1 ⟨rfl, hb1⟩
 have hb : Below (w.heap.size + 1) (w.alloc (Obj.cells #[Value.int IntKind.i64 op, Value.int IntKind.i64 rd, Value.int IntKind.i64 u, Value.int IntKind.i64 v, Value.int IntKind.i64 m] 23)) w1 := by simpa using hb1
 obtain ⟨c0, c1, c2, c3, c4⟩ := cells5 (x := (op, rd, u, v, m)) ((hb.block w.heap.size (by omega)).trans (MapKept.heap_alloc w _).1)
 have HB1 := Lib.hid (((Below.refl w.heap.size w).alloc (Nat.le_refl _) _).trans (hb.mono (by omega)))
 have hsz : w.heap.size + 1 ≤ w1.heap.size := by have := hb.size; simpa using this
 clear hb hb1
 simp only at c0 c1 c2 c3 c4
 go_simp
 clear eT eU
 try rw [Oper.upon_value]
 go_wp2_with (go_at_call 27; refine hold_ ?_)
 intro _
 refine (RC.out _ _ _ _ _ _).mono ?_
 rintro e w2 ⟨rfl, hb2⟩
 rw [HR.out]
 replace c0 := (hb2.cell (p := ⟨w.heap.size, 0, none⟩) (by simp; omega)).trans c0
 replace c1 := (hb2.cell (p := ⟨w.heap.size, 1, none⟩) (by simp; omega)).trans c1
 have HB := Lib.hid (HB1.out.trans (hb2.mono HB1.out.size))
 clear hb2 HB1 c2 c3 c4 hsz
 go_simp
 try rw [Oper.upon_value]
 cases r with
 | false =>
  go_wp2
  go_ret
  refine ⟨_, rfl, ?_, HB.out⟩
  rw [HA.out, show aftv frm rgt (op, rd, u, v, m) a = [] by unfold aftv; simp [HR.out, *]]
  exact World.ownsRow_nil _ _ _ _
 | true =>
  by_cases h46 : op = 46
  ·have b46 : (op == 46) = true := beq_iff_eq.mpr h46
   have N46 := Lib.hid h46
   clear h46
   go_wp2
   go_ret
   refine ⟨_, rfl, ?_, HB.out⟩
   rw [HA.out, show aftv frm rgt (op, rd, u, v, m) a = [] by unfold aftv; rw [if_pos (Or.inr N46.out)]]
   exact World.ownsRow_nil _ _ _ _
  have b46 : (op == 46) = false := beq_eq_false_iff_ne.mpr h46
  have N0 := Lib.hid (show ¬ (rgt (op, rd, u, v, m) = false ∨ op = 46) by rw [HR.out]; simp [h46])
  clear h46
  by_cases h2 : op = 2
  ·have b2 : (op == 2) = true := beq_iff_eq.mpr h2
   have N2 := Lib.hid h2
   clear h2
   by_cases hd : rd = 0
   ·have bd : (rd == 0) = true := beq_iff_eq.mpr hd
    have ND := Lib.hid hd
    clear hd
    go_wp2_with (go_at_call 28; refine hold_ ?_)
    intro _
    refine (Sort_c w.heap.size w2.heap.size 1 [T] _ (OwnU.lower (row1 w2 T) HB.out.size) (by simp)).mono ?_
    rintro e w3 ⟨rfl, o3, g3⟩
    have O3 := Lib.hid o3
    have G3 := Lib.hid g3
    clear o3 g3
    go_simp
    try rw [Oper.upon_value]
    go_wp2_with (go_at_call 29; refine hold_ ?_)
    intro _
    refine (Compact1 w.heap.size w2.heap.size 1 T w3 O3.out).mono ?_
    rintro e w4 ⟨rfl, rfl⟩
    go_simp
    try rw [Oper.upon_value]
    go_wp2
    go_ret
    refine ⟨_, rfl, ?_, (HB.out.alloc HB.out.size _).grown G3.out (Nat.le_trans HB.out.size (by simp)) (fun k hk => by injection hk with hk; rw [← hk]; exact HB.out.size)⟩
    rw [HA.out, show aftv frm rgt (op, rd, u, v, m) a = [T] by unfold aftv; rw [if_neg N0.out, if_pos ⟨N2.out, ND.out⟩]; exact congrArg (fun z => [z]) HT.out]
    exact O3.out
   ·have bd : (rd == 0) = false := beq_eq_false_iff_ne.mpr hd
    have ND := Lib.hid hd
    clear hd
    go_wp2_with (go_at_call 28; refine hold_ ?_)
    intro _
    refine (Sort_c w.heap.size w2.heap.size 2 [T, U] _ (OwnU.lower (row2 w2 T U) HB.out.size) (by simp)).mono ?_
    rintro e w3 ⟨rfl, o3, g3⟩
    have O3 := Lib.hid o3
    have G3 := Lib.hid g3
    clear o3 g3
    go_simp
    try rw [Oper.upon_value]
    go_wp2_with (go_at_call 29; refine hold_ ?_)
    intro _
    refine (Compact_c w.heap.size w2.heap.size 2 T U w3 O3.out).mono ?_
    rintro e w4 ⟨n, rfl, o4, g4⟩
    have O4 := Lib.hid o4
    have G4 := Lib.hid g4
    clear o4 g4
    go_simp
    try rw [Oper.upon_value]
    go_wp2
    go_ret
    refine ⟨_, rfl, ?_, ((HB.out.alloc HB.out.size _).grown G3.out (Nat.le_trans HB.out.size (by simp)) (fun k hk => by injection hk with hk; rw [← hk]; exact HB.out.size)).grown G4.out (Nat.le_trans HB.out.size (Nat.le_trans (by simp) G3.out.size)) (fun k hk => by injection hk with hk; rw [← hk]; exact HB.out.size)⟩
    rw [HA.out, show aftv frm rgt (op, rd, u, v, m) a = dd T U by unfold aftv; rw [if_neg N0.out, if_neg (fun h => ND.out h.2), if_pos (Or.inl N2.out)]; rw [HT.out, HU.out]]
    exact O4.out
  ·have b2 : (op == 2) = false := beq_eq_false_iff_ne.mpr h2
   have N2 := Lib.hid h2
   clear h2
   by_cases hf : frm op = 66
   ·have bf : (frm op == 66) = true := beq_iff_eq.mpr hf
    have NF := Lib.hid hf
    clear hf
    go_wp2_with (go_at_call 28; refine hold_ ?_)
    intro _
    refine (Sort_c w.heap.size w2.heap.size 2 [T, U] _ (OwnU.lower (row2 w2 T U) HB.out.size) (by simp)).mono ?_
    rintro e w3 ⟨rfl, o3, g3⟩
    have O3 := Lib.hid o3
    have G3 := Lib.hid g3
    clear o3 g3
    go_simp
    try rw [Oper.upon_value]
    go_wp2_with (go_at_call 29; refine hold_ ?_)
    intro _
    refine (Compact_c w.heap.size w2.heap.size 2 T U w3 O3.out).mono ?_
    rintro e w4 ⟨n, rfl, o4, g4⟩
    have O4 := Lib.hid o4
    have G4 := Lib.hid g4
    clear o4 g4
    go_simp
    try rw [Oper.upon_value]
    go_wp2
    go_ret
    refine ⟨_, rfl, ?_, ((HB.out.alloc HB.out.size _).grown G3.out (Nat.le_trans HB.out.size (by simp)) (fun k hk => by injection hk with hk; rw [← hk]; exact HB.out.size)).grown G4.out (Nat.le_trans HB.out.size (Nat.le_trans (by simp) G3.out.size)) (fun k hk => by injection hk with hk; rw [← hk]; exact HB.out.size)⟩
    rw [HA.out, show aftv frm rgt (op, rd, u, v, m) a = dd T U by unfold aftv; rw [if_neg N0.out, if_neg (fun h => N2.out h.1), if_pos (Or.inr NF.out)]; rw [HT.out, HU.out]]
    exact O4.out
   ·have bf : (frm op == 66) = false := beq_eq_false_iff_ne.mpr hf
    have NF := Lib.hid hf
    clear hf
    by_cases h3 : op = 3
    ·have b3 : (op == 3) = true := beq_iff_eq.mpr h3
     have N3 := Lib.hid h3
     clear h3
     by_cases hd : rd = 0
     ·have bd : (rd == 0) = true := beq_iff_eq.mpr hd
      have ND := Lib.hid hd
      clear hd
      go_wp2
      go_ret
      refine ⟨_, rfl, ?_, HB.out⟩
      rw [HA.out, show aftv frm rgt (op, rd, u, v, m) a = [] by unfold aftv; rw [if_neg N0.out, if_neg (fun h => N2.out h.1), if_neg (fun h => h.elim N2.out NF.out), if_pos ⟨N3.out, ND.out⟩]]
      exact World.ownsRow_nil _ _ _ _
     ·have bd : (rd == 0) = false := beq_eq_false_iff_ne.mpr hd
      have ND := Lib.hid hd
      clear hd
      go_wp2_with (go_at_call 28; refine hold_ ?_)
      intro _
      refine (Sort_c w.heap.size w2.heap.size 1 [U] _ (OwnU.lower (row1 w2 U) HB.out.size) (by simp)).mono ?_
      rintro e w3 ⟨rfl, o3, g3⟩
      have O3 := Lib.hid o3
      have G3 := Lib.hid g3
      clear o3 g3
      go_simp
      try rw [Oper.upon_value]
      go_wp2_with (go_at_call 29; refine hold_ ?_)
      intro _
      refine (Compact1 w.heap.size w2.heap.size 1 U w3 O3.out).mono ?_
      rintro e w4 ⟨rfl, rfl⟩
      go_simp
      try rw [Oper.upon_value]
      go_wp2
      go_ret
      refine ⟨_, rfl, ?_, (HB.out.alloc HB.out.size _).grown G3.out (Nat.le_trans HB.out.size (by simp)) (fun k hk => by injection hk with hk; rw [← hk]; exact HB.out.size)⟩
      rw [HA.out, show aftv frm rgt (op, rd, u, v, m) a = [U] by unfold aftv; rw [if_neg N0.out, if_neg (fun h => N2.out h.1), if_neg (fun h => h.elim N2.out NF.out), if_neg (fun h => ND.out h.2)]; exact congrArg (fun z => [z]) HU.out]
      exact O3.out
    ·have b3 : (op == 3) = false := beq_eq_false_iff_ne.mpr h3
     have N3 := Lib.hid h3
     clear h3
     go_wp2_with (go_at_call 28; refine hold_ ?_)
     intro _
     refine (Sort_c w.heap.size w2.heap.size 1 [U] _ (OwnU.lower (row1 w2 U) HB.out.size) (by simp)).mono ?_
     rintro e w3 ⟨rfl, o3, g3⟩
     have O3 := Lib.hid o3
     have G3 := Lib.hid g3
     clear o3 g3
     go_simp
     try rw [Oper.upon_value]
     go_wp2_with (go_at_call 29; refine hold_ ?_)
     intro _
     refine (Compact1 w.heap.size w2.heap.size 1 U w3 O3.out).mono ?_
     rintro e w4 ⟨rfl, rfl⟩
     go_simp
     try rw [Oper.upon_value]
     go_wp2
     go_ret
     refine ⟨_, rfl, ?_, (HB.out.alloc HB.out.size _).grown G3.out (Nat.le_trans HB.out.size (by simp)) (fun k hk => by injection hk with hk; rw [← hk]; exact HB.out.size)⟩
     rw [HA.out, show aftv frm rgt (op, rd, u, v, m) a = [U] by unfold aftv; rw [if_neg N0.out, if_neg (fun h => N2.out h.1), if_neg (fun h => h.elim N2.out NF.out), if_neg (fun h => N3.out h.1)]; exact congrArg (fun z => [z]) HU.out]
     exact O3.out
end Go.Proofs.Ytekenddkoahjgaa.Bl
