import Derived.Test.YtcjbdfhofpfooaaZGG
import Derived.RangeFuncNested
import Derived.RangeFuncBound
import Derived.RangeFuncCalls
import Derived.RangeFuncLeaves
import Derived.RangeFuncBox
import Derived.Maps.OwnIn
import Derived.RangeFuncMany
import Derived.RangeFuncOne
import Derived.Shelf.Abstract
import Derived.Shelf.RegionOpen
import Derived.WalkKit
import Derived.OwnWalkIn
import Derived.TacticsInMore
import Derived.RegionIn
import Derived.LoopNIn
import Derived.LoopIn
import Derived.OrdersHeld
import Derived.Deep.RegionHeld
import Derived.OrdersIn
import Derived.Maps.AppendAt
import Derived.KernelRfl
import Derived.StillTailTactics
import Derived.Outline
import Derived.RegionTactic
import Derived.ChangeAlike
import Derived.BigRegion
import Derived.Deep.RegionWith
import Derived.LoopTactic
import Derived.BigQuiet
import Derived.Lib.Hide
/- Layer 18: the walks of package grammar (part GH). -/
namespace Go.Proofs.Ytcjbdfhofpfooaa.Gm
open Go.RowKit Go.Maps Go.Shelf Go.Proofs
set_option linter.unusedVariables false
set_option linter.unusedSimpArgs false
attribute [local go_sem] Oper.semAt_some
/-! ## inst.Plain, lift.Plain, grammar.kind -/
def isPl (op : Int) : Bool := decide (18 ≤ op ∧ op ≤ 26)
theorem iPlain_calls (op : Int) (w : World) : Calls Try.prog 42 #[.int .i64 op] w fun e w' => ∃ r : Int, e = .returned (.tuple #[.int .i64 r, .bool (isPl op)]) ∧ Below w.heap.size w w' := by
  by_cases h : 18 ≤ op ∧ op ≤ 26
  · rw [show isPl op = true from decide_eq_true h]
    obtain ⟨h1, h2⟩ := h
    have h3 : op = 18 ∨ op = 19 ∨ op = 20 ∨ op = 21 ∨ op = 22 ∨ op = 23 ∨ op = 24 ∨ op = 25 ∨ op = 26 := by omega
    clear h1 h2
    rcases h3 with rfl | rfl | rfl | rfl | rfl | rfl | rfl | rfl | rfl
    all_goals
      go_enter Try.func42, Try.ntmps42
      go_wp2
      go_ret2
      exact ⟨_, rfl, Below.refl _ _⟩
  · rw [show isPl op = false from decide_eq_false h]
    have b18 : (op == 18) = false := beq_eq_false_iff_ne.mpr (by omega)
    have b19 : (op == 19) = false := beq_eq_false_iff_ne.mpr (by omega)
    have b20 : (op == 20) = false := beq_eq_false_iff_ne.mpr (by omega)
    have b21 : (op == 21) = false := beq_eq_false_iff_ne.mpr (by omega)
    have b22 : (op == 22) = false := beq_eq_false_iff_ne.mpr (by omega)
    have b23 : (op == 23) = false := beq_eq_false_iff_ne.mpr (by omega)
    have b24 : (op == 24) = false := beq_eq_false_iff_ne.mpr (by omega)
    have b25 : (op == 25) = false := beq_eq_false_iff_ne.mpr (by omega)
    have b26 : (op == 26) = false := beq_eq_false_iff_ne.mpr (by omega)
    clear h
    go_enter Try.func42, Try.ntmps42
    go_wp2
    go_ret2
    exact ⟨_, rfl, Below.refl _ _⟩
def lftv (frm : Int → Int) (rgt : In → Bool) (x : In) : Bool := rgt x && (isPl x.op || (x.op == 0 || (x.op == 1 || frm x.op == 82)))
set_option maxHeartbeats 1600000 in
theorem lPlain_calls (frm : Int → Int) (rgt : In → Bool) (hF : FormC frm) (hRt : RightC rgt) (x : In) (w : World) : Calls Try.prog 25 #[ia x] w fun e w' => e = .returned (.bool (lftv frm rgt x)) ∧ Below w.heap.size w w' := by
  have HF := Lib.hid hF; have HR := Lib.hid hRt
  clear hF hRt
  have hb0 := Lib.hid ((Below.refl w.heap.size w).alloc (Nat.le_refl _) (.cells #[.int .i64 x.op, .int .i64 x.rd, .int .i64 x.a, .int .i64 x.b, .int .i64 x.m] 25))
  by_cases hr : rgt x = true
  · have HRX : Hid (∀ w : World, Calls Try.prog 29 #[ia x] w fun e w' => e = .returned (.bool true) ∧ Below w.heap.size w w') := Lib.hid (fun w => by have := HR.out x w; rw [hr] at this; exact this)
    have hv : lftv frm rgt x = (isPl x.op || (x.op == 0 || (x.op == 1 || frm x.op == 82))) := by unfold lftv; rw [hr]; rfl
    rw [hv]
    clear hr hv
    go_enter Try.func25, Try.ntmps25
    go_wp2_with (go_at_call 29; refine hold_ ?_)
    intro _
    refine (HRX.out _).mono ?_
    rintro e w1 ⟨rfl, hb⟩
    have k0 : w1.cell? ⟨w.heap.size, 0, none⟩ = some (.int .i64 x.op) := ((bcell hb).1 _ _ (by simp)).trans (by go_simp)
    have hz : w.heap.size < w1.heap.size := by have := hb.size; simp at this; omega
    have HB1 := Lib.hid (hb0.out.trans (hb.mono (by simp)))
    clear hb
    go_wp2_with (go_at_call 42; refine hold_ ?_)
    intro _
    refine (iPlain_calls x.op _).mono ?_
    rintro e w2 ⟨r, rfl, hb⟩
    have k0' : w2.cell? ⟨w.heap.size, 0, none⟩ = some (.int .i64 x.op) := ((bcell hb).1 _ _ hz).trans k0
    have hz2 : w.heap.size < w2.heap.size := by have := hb.size; omega
    have HB2 := Lib.hid (HB1.out.trans (hb.mono (by omega)))
    clear hb k0
    by_cases c1 : isPl x.op = true
    · have C1 := Lib.hid c1
      rw [c1]
      clear c1
      go_wp2
      go_ret
      exact ⟨by rw [C1.out]; rfl, HB2.out⟩
    · have c1' : isPl x.op = false := by simpa using c1
      have C1 := Lib.hid c1'
      rw [c1']
      clear c1 c1'
      by_cases c2 : x.op = 0
      · have d2 : (x.op == 0) = true := beq_iff_eq.mpr c2
        have D2 := Lib.hid d2
        clear c2
        go_wp2
        go_ret
        exact ⟨by rw [C1.out, D2.out]; rfl, HB2.out⟩
      · have d2 : (x.op == 0) = false := beq_eq_false_iff_ne.mpr c2
        have D2 := Lib.hid d2
        clear c2
        by_cases c3 : x.op = 1
        · have d3 : (x.op == 1) = true := beq_iff_eq.mpr c3
          have D3 := Lib.hid d3
          clear c3
          go_wp2
          go_ret
          exact ⟨by rw [C1.out, D2.out, D3.out]; rfl, HB2.out⟩
        · have d3 : (x.op == 1) = false := beq_eq_false_iff_ne.mpr c3
          have D3 := Lib.hid d3
          clear c3
          go_wp2_with (go_at_call 28; refine hold_ ?_)
          intro _
          refine (HF.out x.op _).mono ?_
          rintro e w3 ⟨rfl, hb⟩
          have HB3 := Lib.hid (HB2.out.trans (hb.mono (by omega)))
          clear hb k0'
          go_wp2
          go_ret
          exact ⟨by rw [C1.out, D2.out, D3.out]; rfl, HB3.out⟩
  · have hr' : rgt x = false := by simpa using hr
    have HRX : Hid (∀ w : World, Calls Try.prog 29 #[ia x] w fun e w' => e = .returned (.bool false) ∧ Below w.heap.size w w') := Lib.hid (fun w => by have := HR.out x w; rw [hr'] at this; exact this)
    rw [show lftv frm rgt x = false by unfold lftv; rw [hr']; rfl]
    clear hr hr'
    go_enter Try.func25, Try.ntmps25
    go_wp2_with (go_at_call 29; refine hold_ ?_)
    intro _
    refine (HRX.out _).mono ?_
    rintro e w1 ⟨rfl, hb⟩
    have HB1 := Lib.hid (hb0.out.trans (hb.mono (by simp)))
    clear hb
    go_wp2
    go_ret
    exact ⟨rfl, HB1.out⟩
def kndv (frm : Int → Int) (rgt : In → Bool) (op : Int) : Bool := op != 1 && lftv frm rgt ⟨op, 0, 0, 0, 0⟩
theorem kind_calls (frm : Int → Int) (rgt : In → Bool) (hF : FormC frm) (hRt : RightC rgt) : KindC (kndv frm rgt) := by
  intro op w
  have HL := Lib.hid (fun w => lPlain_calls frm rgt hF hRt ⟨op, 0, 0, 0, 0⟩ w)
  clear hF hRt
  unfold kndv
  generalize lftv frm rgt ⟨op, 0, 0, 0, 0⟩ = b at *
  by_cases h : op = 1
  · subst h
    go_enter Try.func38, Try.ntmps38
    go_wp2
    go_ret
    exact ⟨rfl, Below.refl _ _⟩
  · have hb : (op != 1) = true := bne_iff_ne.mpr h
    have HB := Lib.hid hb
    clear h
    go_enter Try.func38, Try.ntmps38
    go_wp2_with (go_at_call 25; refine hold_ ?_)
    intro _
    refine (HL.out _).mono ?_
    rintro e w1 ⟨rfl, hbb⟩
    go_wp2
    go_ret
    exact ⟨by rw [HB.out]; rfl, hbb⟩
/-! ## Bound -/
set_option maxHeartbeats 1600000 in
theorem Bound_calls (o0 o1 o2 : Option Addr) (m0 m1 m2 c0 c1 c2 : Nat) (len : Int) (w : World) (h0 : m0 ≤ c0) (h1 : m1 ≤ c1) (h2 : m2 ≤ c2) (l0 : c0 ≤ 9223372036854775807) (l1 : c1 ≤ 9223372036854775807) (l2 : c2 ≤ 9223372036854775807) :
    Calls Try.prog 16 #[.agg #[.slice o0 m0 c0, .slice o1 m1 c1, .slice o2 m2 c2, .int .i64 len]] w fun e w' => e = .returned (.agg #[.slice o0 (min m0 6) c0, .slice o1 (min m1 5) c1, .slice o2 (min m2 6) c2, .int .i64 len]) ∧ Below w.heap.size w w' := by
  obtain ⟨a, ha⟩ : ∃ a, a = min m0 6 := ⟨_, rfl⟩
  obtain ⟨b, hb⟩ : ∃ b, b = min m1 5 := ⟨_, rfl⟩
  obtain ⟨c, hc⟩ : ∃ c, c = min m2 6 := ⟨_, rfl⟩
  rw [← ha, ← hb, ← hc]
  have mi0 : (if 6 < (m0 : Int) then (6 : Int) else (m0 : Int)) = (a : Int) := by split <;> omega
  have mi1 : (if 5 < (m1 : Int) then (5 : Int) else (m1 : Int)) = (b : Int) := by split <;> omega
  have mi2 : (if 6 < (m2 : Int) then (6 : Int) else (m2 : Int)) = (c : Int) := by split <;> omega
  have la : a ≤ c0 := by omega
  have lb : b ≤ c1 := by omega
  have lc : c ≤ c2 := by omega
  clear ha hb hc h0 h1 h2
  go_enter Try.func16, Try.ntmps16
  go_wp2
  obtain ⟨W2, hW2⟩ : ∃ W2, W2 = (w.alloc (.cells #[.slice o0 m0 c0, .slice o1 m1 c1, .slice o2 m2 c2, .int .i64 len] 31)).alloc (.cells #[.slice none 0 0, .slice none 0 0, .slice none 0 0, .int .i64 0] 31) := ⟨_, rfl⟩
  rw [← hW2]
  have k0 : W2.cell? ⟨w.heap.size, 0, none⟩ = some (.slice o0 m0 c0) := by rw [hW2]; go_simp
  have k1 : W2.cell? ⟨w.heap.size, 1, none⟩ = some (.slice o1 m1 c1) := by rw [hW2]; go_simp
  have k2 : W2.cell? ⟨w.heap.size, 2, none⟩ = some (.slice o2 m2 c2) := by rw [hW2]; go_simp
  have k3 : W2.cell? ⟨w.heap.size, 3, none⟩ = some (.int .i64 len) := by rw [hW2]; go_simp
  have j0 : W2.cell? ⟨w.heap.size + 1, 0, none⟩ = some (.slice none 0 0) := by rw [hW2]; go_simp
  have j1 : W2.cell? ⟨w.heap.size + 1, 1, none⟩ = some (.slice none 0 0) := by rw [hW2]; go_simp
  have j2 : W2.cell? ⟨w.heap.size + 1, 2, none⟩ = some (.slice none 0 0) := by rw [hW2]; go_simp
  have j3 : W2.cell? ⟨w.heap.size + 1, 3, none⟩ = some (.int .i64 0) := by rw [hW2]; go_simp
  have f0 : W2.frozen? ⟨w.heap.size + 1, 0, none⟩ = false := by rw [hW2]; go_simp
  have f1 : W2.frozen? ⟨w.heap.size + 1, 1, none⟩ = false := by rw [hW2]; go_simp
  have f2 : W2.frozen? ⟨w.heap.size + 1, 2, none⟩ = false := by rw [hW2]; go_simp
  have f3 : W2.frozen? ⟨w.heap.size + 1, 3, none⟩ = false := by rw [hW2]; go_simp
  have hB : Below w.heap.size w W2 := by rw [hW2]; exact ((Below.refl _ w).alloc (Nat.le_refl _) _).alloc (by simp) _
  have hz : w.heap.size + 1 < W2.heap.size := by rw [hW2]; simp
  have HB := Lib.hid hB
  clear hW2 hB
  have k0d : World.cell? { heap := W2.heap, tape := W2.tape, drawn := W2.drawn + 1, os := W2.os, output := W2.output } _ = _ := k0
  have k1d : World.cell? { heap := W2.heap, tape := W2.tape, drawn := W2.drawn + 1, os := W2.os, output := W2.output } _ = _ := k1
  have k2d : World.cell? { heap := W2.heap, tape := W2.tape, drawn := W2.drawn + 1, os := W2.os, output := W2.output } _ = _ := k2
  have k3d : World.cell? { heap := W2.heap, tape := W2.tape, drawn := W2.drawn + 1, os := W2.os, output := W2.output } _ = _ := k3
  go_still_tail 24, (by kernel_rfl)
  go_wp2
  refine bodyPost_ret (v := .agg #[.slice o0 a c0, .slice o1 b c1, .slice o2 c c2, .int .i64 len]) ?_ rfl ⟨rfl, ?_⟩
  · simp [results, Try.f16, Try.results16, go_sem, k0, k1, k2, k3, j0, j1, j2, j3, f0, f1, f2, f3, hz]
  · (repeat' first | exact HB.out | refine Below.drew ?_ | refine below_sc ?_ ?_)
    all_goals (dsimp only; omega)
end Go.Proofs.Ytcjbdfhofpfooaa.Gm
