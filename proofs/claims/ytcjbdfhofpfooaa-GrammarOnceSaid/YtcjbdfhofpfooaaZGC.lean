import Derived.Test.YtcjbdfhofpfooaaZGB
import Derived.RangeFuncNested
import Derived.RangeFuncBound
import Derived.RangeFuncCalls
import Derived.RangeFuncLeaves
import Derived.RangeFuncBox
import Derived.RangeFuncMany
import Derived.RangeFuncOne
import Derived.Shelf.Abstract
import Derived.Shelf.RegionOpen
import Derived.WalkKit
import Derived.OwnWalkIn
import Derived.TacticsInMore
import Derived.RegionIn
import Derived.LoopNIn
import Derived.LoopIn
import Derived.Maps.AppendAt
import Derived.KernelRfl
import Derived.StillTailTactics
import Derived.Outline
import Derived.RegionTactic
import Derived.ChangeAlike
import Derived.BigRegion
import Derived.Deep.RegionWith
import Derived.LoopTactic
import Derived.BigQuiet
import Derived.Lib.Hide
/- Layer 18: the walks of package grammar (part GC). -/
namespace Go.Proofs.Ytcjbdfhofpfooaa.Gm
open Go.RowKit Go.Maps Go.Shelf Go.Proofs
set_option linter.unusedVariables false
set_option linter.unusedSimpArgs false
attribute [local go_sem] Oper.semAt_some
/-! ## grammar.each -/
/-- What the call of Form answers. -/
def FormC (frm : Int → Int) : Prop := ∀ (op : Int) (w : World), Calls Try.prog 28 #[.int .i64 op] w fun e w' => e = .returned (.int .u8 (frm op)) ∧ Below w.heap.size w w'
/-- What the call of Right answers. -/
def RightC (rgt : In → Bool) : Prop := ∀ (x : In) (w : World), Calls Try.prog 29 #[ia x] w fun e w' => e = .returned (.bool (rgt x)) ∧ Below w.heap.size w w'
def sndL (f : Int) (regs : List Int) : List Int := if f = 85 then [0] else regs
def trdL (f : Int) (regs imms : List Int) : List Int := if f = 82 then regs else imms
/-- The value that each hands back: the iterator, with what it has captured. -/
def EachV (frm : Int → Int) (S : Nat → Prop) (w : World) (v : Value) (op : Int) (regs imms : List Int) : Prop :=
  ∃ bg b2 b3 bo bf vr vs vt, v = .func (.func 58) #[] #[.pointer (some ⟨bg, 0, none⟩), .pointer (some ⟨b2, 0, none⟩), .pointer (some ⟨b3, 0, none⟩), .pointer (some ⟨bo, 0, none⟩), .pointer (some ⟨bf, 0, none⟩)] ∧
    w.cell? ⟨bg, 1, none⟩ = some vr ∧ w.cell? ⟨b2, 0, none⟩ = some vs ∧ w.cell? ⟨b3, 0, none⟩ = some vt ∧ w.cell? ⟨bo, 0, none⟩ = some (.int .i64 op) ∧ w.cell? ⟨bf, 0, none⟩ = some (.int .u8 (frm op)) ∧
    (S bg ∧ S b2 ∧ S b3 ∧ S bo ∧ S bf) ∧ ReadS S w vr regs ∧ ReadS S w vs (sndL (frm op) regs) ∧ ReadS S w vt (trdL (frm op) regs imms)
theorem bcell {W w1 : World} (hb : Below W.heap.size W w1) : (∀ b o, b < W.heap.size → w1.cell? ⟨b, o, none⟩ = W.cell? ⟨b, o, none⟩) ∧ (∀ b o, b < W.heap.size → w1.frozen? ⟨b, o, none⟩ = W.frozen? ⟨b, o, none⟩) :=
  ⟨fun b o h => hb.cell (p := ⟨b, o, none⟩) h, fun b o h => hb.frozen (p := ⟨b, o, none⟩) h⟩
theorem below_sc {B : Nat} {w W : World} {p : Addr} {v : Value} (h : Below B w W) (hp : B ≤ p.block) : Below B w (W.setCell p v) := h.setCell hp v
/-- The blocks that each and its caller's arguments lie in. -/
def SE (n0 n1 n2 : Nat) (b : Nat) : Prop := b < n0 ∨ (n1 ≤ b ∧ b < n2)
theorem post_each {frm : Int → Int} {n0 : Nat} {w w' : World} {v r i : Value} {op : Int} {regs imms : List Int} (hn : n0 ≤ w.heap.size) (hr : ReadN n0 w r regs) (hi : ReadN n0 w i imms) (hB : Below w.heap.size w w')
    (h : ∃ bg b2 b3 bo bf vr vs vt, v = .func (.func 58) #[] #[.pointer (some ⟨bg, 0, none⟩), .pointer (some ⟨b2, 0, none⟩), .pointer (some ⟨b3, 0, none⟩), .pointer (some ⟨bo, 0, none⟩), .pointer (some ⟨bf, 0, none⟩)] ∧
      w'.cell? ⟨bg, 1, none⟩ = some vr ∧ w'.cell? ⟨b2, 0, none⟩ = some vs ∧ w'.cell? ⟨b3, 0, none⟩ = some vt ∧ w'.cell? ⟨bo, 0, none⟩ = some (.int .i64 op) ∧ w'.cell? ⟨bf, 0, none⟩ = some (.int .u8 (frm op)) ∧
      (w.heap.size ≤ bg ∧ w.heap.size ≤ b2 ∧ w.heap.size ≤ b3 ∧ w.heap.size ≤ bo ∧ w.heap.size ≤ bf) ∧
      vr = r ∧ ((sndL (frm op) regs = regs ∧ vs = r) ∨ (sndL (frm op) regs = [0] ∧ ReadS (fun b => w.heap.size ≤ b) w' vs [0])) ∧ ((trdL (frm op) regs imms = regs ∧ vt = r) ∨ (trdL (frm op) regs imms = imms ∧ vt = i))) :
    ∃ u, Ending.returned v = .returned u ∧ EachV frm (SE n0 w.heap.size w'.heap.size) w' u op regs imms ∧ Below w.heap.size w w' := by
  obtain ⟨bg, b2, b3, bo, bf, vr, vs, vt, e, k1, k2, k3, k4, k5, ⟨q1, q2, q3, q4, q5⟩, rfl, h2, h3⟩ := h
  have hr' : ReadS (SE n0 w.heap.size w'.heap.size) w' vr regs := (hr.below (hB.mono hn)).toS (fun b hb => Or.inl hb)
  have hi' : ReadS (SE n0 w.heap.size w'.heap.size) w' i imms := (hi.below (hB.mono hn)).toS (fun b hb => Or.inl hb)
  refine ⟨v, rfl, ⟨bg, b2, b3, bo, bf, vr, vs, vt, e, k1, k2, k3, k4, k5, ⟨.inr ⟨q1, World.block_lt_of_cell? _ _ k1⟩, .inr ⟨q2, World.block_lt_of_cell? _ _ k2⟩, .inr ⟨q3, World.block_lt_of_cell? _ _ k3⟩, .inr ⟨q4, World.block_lt_of_cell? _ _ k4⟩, .inr ⟨q5, World.block_lt_of_cell? _ _ k5⟩⟩, hr', ?_, ?_⟩, hB⟩
  · rcases h2 with ⟨e1, e2⟩ | ⟨e1, e2⟩
    · rw [e1, e2]; exact hr'
    · rw [e1]
      obtain ⟨o, cap, e3, h4⟩ := e2
      refine ⟨o, cap, e3, fun hl => ?_⟩
      obtain ⟨b, off, e4, hb, hc⟩ := h4 hl
      exact ⟨b, off, e4, .inr ⟨hb, World.block_lt_of_cell? _ _ (hc 0 0 rfl)⟩, hc⟩
  · rcases h3 with ⟨e1, e2⟩ | ⟨e1, e2⟩
    · rw [e1, e2]; exact hr'
    · rw [e1, e2]; exact hi'
set_option maxHeartbeats 4000000 in
theorem each_calls (frm : Int → Int) (hF : FormC frm) (o0 o1 o2 : Option Addr) (n0 n1 n2 c0 c1 c2 : Nat) (len op : Int) (w : World) (B0 : Nat) (hB0 : B0 ≤ w.heap.size) (regs imms : List Int) (hr : ReadN B0 w (.slice o1 n1 c1) regs) (hi : ReadN B0 w (.slice o2 n2 c2) imms) :
    Calls Try.prog 53 #[.agg #[.slice o0 n0 c0, .slice o1 n1 c1, .slice o2 n2 c2, .int .i64 len], .int .i64 op] w fun e w' => ∃ v, e = .returned v ∧ EachV frm (SE B0 w.heap.size w'.heap.size) w' v op regs imms ∧ Below w.heap.size w w' := by
  have HR := Lib.hid hr
  have HI := Lib.hid hi
  have HFC := Lib.hid hF
  clear hr hi hF
  go_enter Try.func53, Try.ntmps53
  go_wp2
  go_region
  all_goals
    go_wp2_with (go_at_call 28; refine hold_ ?_)
    intro _
    refine (HFC.out op _).mono ?_
    rintro e w1 ⟨rfl, hb⟩
    obtain ⟨hc, hf⟩ := bcell hb
    have hz : w.heap.size + 1 + 1 + 1 < w1.heap.size := by have := hb.size; simp at this; omega
    have k0 : w1.cell? ⟨w.heap.size, 1, none⟩ = some (.slice o1 n1 c1) := (hc _ _ (by first | (simp; done) | (simp; omega))).trans (by go_simp)
    have k0' : w1.cell? ⟨w.heap.size, 2, none⟩ = some (.slice o2 n2 c2) := (hc _ _ (by first | (simp; done) | (simp; omega))).trans (by go_simp)
    have k1 : w1.cell? ⟨w.heap.size + 1, 0, none⟩ = some (.int .i64 op) := (hc _ _ (by first | (simp; done) | (simp; omega))).trans (by go_simp)
    have k2 : w1.cell? ⟨w.heap.size + 1 + 1, 0, none⟩ = some (.slice o1 n1 c1) := (hc _ _ (by first | (simp; done) | (simp; omega))).trans (by go_simp)
    have k3 : w1.cell? ⟨w.heap.size + 1 + 1 + 1, 0, none⟩ = some (.slice o1 n1 c1) := (hc _ _ (by first | (simp; done) | (simp; omega))).trans (by go_simp)
    have f2 : w1.frozen? ⟨w.heap.size + 1 + 1, 0, none⟩ = false := (hf _ _ (by first | (simp; done) | (simp; omega))).trans (by go_simp)
    have f3 : w1.frozen? ⟨w.heap.size + 1 + 1 + 1, 0, none⟩ = false := (hf _ _ (by first | (simp; done) | (simp; omega))).trans (by go_simp)
    have z0 : w.heap.size < w1.heap.size := by omega
    have z1 : w.heap.size + 1 < w1.heap.size := by omega
    have z2 : w.heap.size + 1 + 1 < w1.heap.size := by omega
    have HB1 : Hid (Below w.heap.size w w1) := Lib.hid ((((((Below.refl w.heap.size w).alloc (by simp) _).alloc (by simp) _).alloc (by simp; omega) _).alloc (by simp; omega) _).drew.trans (hb.mono (by simp; omega)))
    clear hb hc hf
    by_cases h85 : frm op = 85
    · have E := Lib.hid h85
      rw [h85]
      clear h85
      go_wp2
      go_ret
      refine post_each hB0 HR.out HI.out ?_ ⟨_, _, _, _, _, _, _, _, rfl, by go_simp, by (go_simp; try rfl), by (go_simp; try rfl), by go_simp, by rw [E.out]; go_simp, ⟨Nat.le_refl _, by omega, by omega, by omega, by omega⟩, rfl, ?_, ?_⟩
      · ((repeat' first | exact HB1.out | refine Below.alloc ?_ ?_ _ | refine below_sc ?_ ?_); all_goals first | (simp; done) | (simp; omega) | (dsimp only; omega))
      · right
        refine ⟨by rw [E.out]; rfl, ⟨_, _, rfl, fun _ => ⟨_, 0, rfl, by dsimp only; omega, fun j x hx => ?_⟩⟩⟩
        obtain ⟨rfl, rfl⟩ : j = 0 ∧ x = 0 := by cases j <;> simp_all
        go_simp
      · right; exact ⟨by rw [E.out]; rfl, rfl⟩
    · have b85 : (frm op == 85) = false := beq_eq_false_iff_ne.mpr h85
      by_cases h82 : frm op = 82
      · have E := Lib.hid h82
        rw [h82]
        clear h82 h85 b85
        go_wp2
        go_ret
        refine post_each hB0 HR.out HI.out ?_ ⟨_, _, _, _, _, _, _, _, rfl, by go_simp, by (go_simp; try rfl), by (go_simp; try rfl), by go_simp, by rw [E.out]; go_simp, ⟨Nat.le_refl _, by omega, by omega, by omega, by omega⟩, rfl, ?_, ?_⟩
        · exact HB1.out.alloc (by omega) _
        · left; exact ⟨by rw [E.out]; rfl, rfl⟩
        · left; exact ⟨by rw [E.out]; rfl, rfl⟩
      · have b82 : (frm op != 82) = true := bne_iff_ne.mpr h82
        have E5 := Lib.hid h85
        have E2 := Lib.hid h82
        clear h82 h85
        go_wp2
        go_ret
        refine post_each hB0 HR.out HI.out ?_ ⟨_, _, _, _, _, _, _, _, rfl, by go_simp, by (go_simp; try rfl), by (go_simp; try rfl), by go_simp, by go_simp, ⟨Nat.le_refl _, by omega, by omega, by omega, by omega⟩, rfl, ?_, ?_⟩
        · ((repeat' first | exact HB1.out | refine Below.alloc ?_ ?_ _ | refine below_sc ?_ ?_); all_goals first | (simp; done) | (simp; omega) | (dsimp only; omega))
        · left; exact ⟨by unfold sndL; rw [if_neg E5.out], rfl⟩
        · right; exact ⟨by unfold trdL; rw [if_neg E2.out], rfl⟩
end Go.Proofs.Ytcjbdfhofpfooaa.Gm
