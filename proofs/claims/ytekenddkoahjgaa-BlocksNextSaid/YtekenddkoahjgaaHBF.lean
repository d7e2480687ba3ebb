import Derived.Test.YtekenddkoahjgaaHBB
import Derived.WalkKit
import Derived.KernelRfl
import Derived.Below
import Derived.Outline
import Derived.LoopTactic
import Derived.Maps.Own
import Derived.Maps.OwnOps
import Derived.Maps.OwnSet
import Derived.Maps.Views
import Derived.Maps.AppendAt
import Derived.Laws.BitsLemmas
import Derived.Laws.BitsAllLaws
import Derived.Deep.LoopGhost
import Derived.Lib.Hide
import Derived.Deep.QuietTactic
import Derived.BigQuiet
import Derived.Deep.Draws
import Derived.Laws.StructEq
import Derived.Deep.Slices
import Derived.Deep.Fields
import Derived.ChangeSame
import Derived.Deep.CutBlock
import Derived.Deep.DeepCutAuto
import Derived.Deep.RegionHeld3
import Derived.StillTailTactics
import Derived.WalkSmall
import Derived.OwnWalk
import Derived.Laws.OwnMore
import Derived.Laws.BytesArg
import Derived.Laws.MakeOwn
import Derived.Laws.Tables
import Derived.Laws.Rows
import Derived.Laws.World
import Derived.Lib.SliceRun
/- Layer 8, walked: the document's After. -/
namespace Go.Proofs.Ytekenddkoahjgaa.Bl
open Go.RowKit Go.Maps Go.Proofs
set_option maxRecDepth 100000
set_option linter.unusedVariables false
set_option linter.unusedSimpArgs false
theorem dd_mm {T U : Nat} (h : ¬ T = U) : dd T U = [min T U, max T U] := by
 unfold dd
 rcases Nat.lt_or_ge T U with h1 | h1
 ·rw [if_pos h1, Nat.min_eq_left (by omega), Nat.max_eq_right (by omega)]
 ·rw [if_neg (by omega), if_pos (by omega), Nat.min_eq_right (by omega), Nat.max_eq_left (by omega)]
set_option maxHeartbeats 4000000 in
theorem rAfter_calls (frm : Int → Int) (rgt : Ins → Bool) (h3 : frm 3 ≠ 66) (op rd u v m : Int) (formC : ∀ w, Calls Try.prog 31 #[.int .i64 op] w fun e w' => e = .returned (.int .u8 (frm op)) ∧ Below w.heap.size w w') (rightC : ∀ w, Calls Try.prog 30 #[iv (op, rd, u, v, m)] w fun e w' => e = .returned (.bool (rgt (op, rd, u, v, m))) ∧ Below w.heap.size w w') (a : Nat) (w : World) (A : List Nat) (hA : A = aftv frm rgt (op, rd, u, v, m) a) :
  Calls Try.prog 14 #[iv (op, rd, u, v, m), .int .u32 (a : Int)] w fun e w' => ∃ v, e = .returned v ∧ OwnU w' w.heap.size v A ∧ Below w.heap.size w w' := by
 obtain ⟨r, hr⟩ : ∃ r, rgt (op, rd, u, v, m) = r := ⟨_, rfl⟩
 obtain ⟨T, hT⟩ : ∃ T : Nat, tov (op, rd, u, v, m) a = T := ⟨_, rfl⟩
 obtain ⟨U, hU⟩ : ∃ U : Nat, nextv a = U := ⟨_, rfl⟩
 have eT : ((a : Int) + m) % 4294967296 = (T : Int) := by rw [← hT]; unfold tov; simp only; omega
 have eU : ((a : Int) + 4) % 4294967296 = (U : Int) := by rw [← hU]; unfold nextv; omega
 have HT := Lib.hid hT
 have HU := Lib.hid hU
 have HA := Lib.hid hA
 have HR := Lib.hid hr
 have FC := Lib.hid formC
 have RC := Lib.hid rightC
 clear hr formC rightC hT hU hA
 go_enter Try.func14, Try.ntmps14
 have hN : Below w.heap.size w (w.alloc (Obj.cells #[Value.int IntKind.i64 op, Value.int IntKind.i64 rd, Value.int IntKind.i64 u, Value.int IntKind.i64 v, Value.int IntKind.i64 m] 23)) := (Below.refl w.heap.size w).alloc (Nat.le_refl _) _
 have HN := Lib.hid hN
 have H3 := Lib.hid h3
 clear hN h3
 go_wp2_with (go_at_call 30; refine hold_ ?_)
 intro _
 refine (RC.out _).mono ?_
 rintro e w2 ⟨rfl, hb2⟩
 rw [HR.out]
 obtain ⟨c0, c1, c2, c3, c4⟩ := cells5 (x := (op, rd, u, v, m)) ((hb2.block w.heap.size (by simp)).trans (MapKept.heap_alloc w _).1)
 simp only at c0 c1 c2 c3 c4
 have HB := Lib.hid (HN.out.trans (hb2.mono (by simp)))
 have hsz : w.heap.size < w2.heap.size := by have := hb2.size; simp at this; omega
 clear hb2 HN c2 c3 c4
 go_simp
 clear eT eU
 try rw [Oper.upon_value]
 cases r with
 | false =>
  go_wp2
  go_ret
  refine ⟨_, rfl, ?_, HB.out.alloc HB.out.size _⟩
  rw [HA.out, show aftv frm rgt (op, rd, u, v, m) a = [] by unfold aftv; simp [HR.out]]
  exact OwnU.lower (OwnU.lit w2 w2.heap.size [] (Nat.le_refl _) (by simp [maxLen])) HB.out.size
 | true =>
  by_cases h46 : op = 46
  ·have b46 : (op == 46) = true := beq_iff_eq.mpr h46
   have N46 := Lib.hid h46
   clear h46
   go_wp2
   go_ret
   refine ⟨_, rfl, ?_, HB.out.alloc HB.out.size _⟩
   rw [HA.out, show aftv frm rgt (op, rd, u, v, m) a = [] by unfold aftv; rw [if_pos (Or.inr N46.out)]]
   exact OwnU.lower (OwnU.lit w2 w2.heap.size [] (Nat.le_refl _) (by simp [maxLen])) HB.out.size
  ·have b46 : (op == 46) = false := beq_eq_false_iff_ne.mpr h46
   have N0 := Lib.hid (show ¬ (rgt (op, rd, u, v, m) = false ∨ op = 46) by rw [HR.out]; simp [h46])
   clear h46
   by_cases h2 : op = 2
   ·have b2 : (op == 2) = true := beq_iff_eq.mpr h2; have nb2 : (op != 2) = false := by simp only [bne, b2, Bool.not_true]
    have N2 := Lib.hid h2
    clear h2
    by_cases hd : rd = 0
    ·have bd : (rd == 0) = true := beq_iff_eq.mpr hd; have nbd : (rd != 0) = false := by simp only [bne, bd, Bool.not_true]
     have ND := Lib.hid hd
     clear hd
     go_wp2
     go_ret
     refine ⟨_, rfl, ?_, HB.out.alloc HB.out.size _⟩
     rw [HA.out, show aftv frm rgt (op, rd, u, v, m) a = [T] by unfold aftv; rw [if_neg N0.out, if_pos ⟨N2.out, ND.out⟩]; exact congrArg (fun z => [z]) HT.out]
     exact OwnU.lower (row1 w2 T) HB.out.size
    ·have bd : (rd == 0) = false := beq_eq_false_iff_ne.mpr hd; have nbd : (rd != 0) = true := by simp only [bne, bd, Bool.not_false]
     have ND := Lib.hid hd
     clear hd
     by_cases hTU : T = U
     ·have bTU : ((T : Int) == (U : Int)) = true := beq_iff_eq.mpr (by omega)
      have nTU : ((T : Int) != (U : Int)) = false := by simp only [bne, bTU, Bool.not_true]
      have ND2 := Lib.hid (show dd T U = [T] by unfold dd; rw [if_neg (by omega), if_neg (by omega)])
      clear hTU
      go_wp2
      go_ret
      refine ⟨_, rfl, ?_, HB.out.alloc HB.out.size _⟩
      rw [HA.out, show aftv frm rgt (op, rd, u, v, m) a = [T] by unfold aftv; rw [if_neg N0.out, if_neg (fun h => ND.out h.2), if_pos (Or.inl N2.out)]; rw [HT.out, HU.out]; exact ND2.out]
      exact OwnU.lower (row1 w2 T) HB.out.size
     ·have bTU : ((T : Int) == (U : Int)) = false := beq_eq_false_iff_ne.mpr (by omega)
      have nTU : ((T : Int) != (U : Int)) = true := by simp only [bne, bTU, Bool.not_false]
      have ND2 := Lib.hid (dd_mm hTU)
      clear hTU
      go_wp2
      go_ret
      refine ⟨_, rfl, ?_, HB.out.alloc HB.out.size _⟩
      rw [HA.out, show aftv frm rgt (op, rd, u, v, m) a = [min T U, max T U] by unfold aftv; rw [if_neg N0.out, if_neg (fun h => ND.out h.2), if_pos (Or.inl N2.out)]; rw [HT.out, HU.out]; exact ND2.out]
      have hrow := OwnU.lower (row2 w2 (min T U) (max T U)) HB.out.size
      rw [show ((min T U : Nat) : Int) = min (T : Int) (U : Int) by omega, show ((max T U : Nat) : Int) = max (T : Int) (U : Int) by omega] at hrow
      exact hrow
   ·have b2 : (op == 2) = false := beq_eq_false_iff_ne.mpr h2; have nb2 : (op != 2) = true := by simp only [bne, b2, Bool.not_false]
    have N2 := Lib.hid h2
    clear h2
    go_wp2_with (go_at_call 31; refine hold_ ?_)
    intro _
    refine (FC.out _).mono ?_
    rintro e w3 ⟨rfl, hb3⟩
    replace c0 := (hb3.cell (p := ⟨w.heap.size, 0, none⟩) hsz).trans c0
    replace c1 := (hb3.cell (p := ⟨w.heap.size, 1, none⟩) hsz).trans c1
    have HB2 := Lib.hid (HB.out.trans (hb3.mono HB.out.size))
    clear hb3 HB hsz
    have HB := HB2
    clear HB2
    generalize w3 = w2 at *
    go_simp
    try rw [Oper.upon_value]
    by_cases hf : frm op = 66
    ·have bf : (frm op == 66) = true := beq_iff_eq.mpr hf
     have N3 : ¬ op = 3 := fun h => H3.out (by rw [← h]; exact hf)
     have b3 : (op == 3) = false := beq_eq_false_iff_ne.mpr N3; have nb3 : (op != 3) = true := by simp only [bne, b3, Bool.not_false]
     have NF := Lib.hid hf
     clear hf N3
     by_cases hTU : T = U
     ·have bTU : ((T : Int) == (U : Int)) = true := beq_iff_eq.mpr (by omega)
      have nTU : ((T : Int) != (U : Int)) = false := by simp only [bne, bTU, Bool.not_true]
      have ND2 := Lib.hid (show dd T U = [T] by unfold dd; rw [if_neg (by omega), if_neg (by omega)])
      clear hTU
      go_wp2
      go_ret
      refine ⟨_, rfl, ?_, HB.out.alloc HB.out.size _⟩
      rw [HA.out, show aftv frm rgt (op, rd, u, v, m) a = [T] by unfold aftv; rw [if_neg N0.out, if_neg (fun h => N2.out h.1), if_pos (Or.inr NF.out)]; rw [HT.out, HU.out]; exact ND2.out]
      exact OwnU.lower (row1 w2 T) HB.out.size
     ·have bTU : ((T : Int) == (U : Int)) = false := beq_eq_false_iff_ne.mpr (by omega)
      have nTU : ((T : Int) != (U : Int)) = true := by simp only [bne, bTU, Bool.not_false]
      have ND2 := Lib.hid (dd_mm hTU)
      clear hTU
      go_wp2
      go_ret
      refine ⟨_, rfl, ?_, HB.out.alloc HB.out.size _⟩
      rw [HA.out, show aftv frm rgt (op, rd, u, v, m) a = [min T U, max T U] by unfold aftv; rw [if_neg N0.out, if_neg (fun h => N2.out h.1), if_pos (Or.inr NF.out)]; rw [HT.out, HU.out]; exact ND2.out]
      have hrow := OwnU.lower (row2 w2 (min T U) (max T U)) HB.out.size
      rw [show ((min T U : Nat) : Int) = min (T : Int) (U : Int) by omega, show ((max T U : Nat) : Int) = max (T : Int) (U : Int) by omega] at hrow
      exact hrow
    ·have bf : (frm op == 66) = false := beq_eq_false_iff_ne.mpr hf
     have NF := Lib.hid hf
     clear hf
     by_cases h3 : op = 3
     ·have b3 : (op == 3) = true := beq_iff_eq.mpr h3; have nb3 : (op != 3) = false := by simp only [bne, b3, Bool.not_true]
      have N3 := Lib.hid h3
      clear h3
      by_cases hd : rd = 0
      ·have bd : (rd == 0) = true := beq_iff_eq.mpr hd; have nbd : (rd != 0) = false := by simp only [bne, bd, Bool.not_true]
       have ND := Lib.hid hd
       clear hd
       go_wp2
       go_ret
       refine ⟨_, rfl, ?_, HB.out.alloc HB.out.size _⟩
       rw [HA.out, show aftv frm rgt (op, rd, u, v, m) a = [] by unfold aftv; rw [if_neg N0.out, if_neg (fun h => N2.out h.1), if_neg (fun h => h.elim N2.out NF.out), if_pos ⟨N3.out, ND.out⟩]]
       exact OwnU.lower (OwnU.lit w2 w2.heap.size [] (Nat.le_refl _) (by simp [maxLen])) HB.out.size
      ·have bd : (rd == 0) = false := beq_eq_false_iff_ne.mpr hd; have nbd : (rd != 0) = true := by simp only [bne, bd, Bool.not_false]
       have ND := Lib.hid hd
       clear hd
       go_wp2
       go_ret
       refine ⟨_, rfl, ?_, HB.out.alloc HB.out.size _⟩
       rw [HA.out, show aftv frm rgt (op, rd, u, v, m) a = [U] by unfold aftv; rw [if_neg N0.out, if_neg (fun h => N2.out h.1), if_neg (fun h => h.elim N2.out NF.out), if_neg (fun h => ND.out h.2)]; exact congrArg (fun z => [z]) HU.out]
       exact OwnU.lower (row1 w2 U) HB.out.size
     ·have b3 : (op == 3) = false := beq_eq_false_iff_ne.mpr h3; have nb3 : (op != 3) = true := by simp only [bne, b3, Bool.not_false]
      have N3 := Lib.hid h3
      clear h3
      go_wp2
      go_ret
      refine ⟨_, rfl, ?_, HB.out.alloc HB.out.size _⟩
      rw [HA.out, show aftv frm rgt (op, rd, u, v, m) a = [U] by unfold aftv; rw [if_neg N0.out, if_neg (fun h => N2.out h.1), if_neg (fun h => h.elim N2.out NF.out), if_neg (fun h => N3.out h.1)]; exact congrArg (fun z => [z]) HU.out]
      exact OwnU.lower (row1 w2 U) HB.out.size
end Go.Proofs.Ytekenddkoahjgaa.Bl
