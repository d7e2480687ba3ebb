import Derived.Test.YtekenddkoahjgaaHBC
import Derived.WalkKit
import Derived.KernelRfl
import Derived.Below
import Derived.Outline
import Derived.LoopTactic
import Derived.Maps.Own
import Derived.Maps.OwnOps
import Derived.Maps.OwnSet
import Derived.Maps.Views
import Derived.Maps.AppendAt
import Derived.Laws.BitsLemmas
import Derived.Laws.BitsAllLaws
import Derived.Deep.LoopGhost
import Derived.Lib.Hide
import Derived.Deep.QuietTactic
import Derived.BigQuiet
import Derived.Deep.Draws
import Derived.Laws.StructEq
import Derived.Deep.Slices
import Derived.Deep.Fields
import Derived.ChangeSame
import Derived.Deep.CutBlock
import Derived.Deep.DeepCutAuto
import Derived.Deep.RegionHeld3
import Derived.StillTailTactics
import Derived.WalkSmall
import Derived.OwnWalk
import Derived.Laws.OwnMore
import Derived.Laws.BytesArg
import Derived.Laws.MakeOwn
import Derived.Laws.Tables
import Derived.Laws.Rows
import Derived.Laws.World
import Derived.Lib.SliceRun
/- Layer 8, walked: the finder's loop. -/
namespace Go.Proofs.Ytekenddkoahjgaa.Bl
open Go.RowKit Go.Maps Go.Proofs
set_option maxRecDepth 100000
set_option linter.unusedVariables false
set_option linter.unusedSimpArgs false
abbrev imv (B E : Int) (A : Option Addr) (n cap : Nat) (S : Int) : Value := .agg #[.int .u32 B, .int .u32 E, .slice A n cap, .int .i64 S]
def gseen (I : Nat → Ins × Int) (l : List Nat) : Nat → Option Value := fun a => if a ∈ l then some (iv (I a).1) else none
def glead (l : List Nat) : Nat → Option Value := fun a => if a ∈ l then some (.bool true) else none
def gbad (I : Nat → Ins × Int) (l : List Nat) : Nat → Option Value := fun a => if a ∈ l then some (.int .i64 (I a).2) else none
theorem gseen_put (I : Nat → Ins × Int) (l : List Nat) (a : Nat) : ∀ x, updm (gseen I l) a (iv (I a).1) x = gseen I (a :: l) x := by
 intro x
 unfold updm gseen
 by_cases h : x = a
 ·subst h; simp
 ·simp [h]
theorem glead_put (l : List Nat) (a : Nat) : ∀ x, updm (glead l) a (.bool true) x = glead (a :: l) x := by
 intro x
 unfold updm glead
 by_cases h : x = a
 ·subst h; simp
 ·simp [h]
theorem gbad_put (I : Nat → Ins × Int) (l : List Nat) (a : Nat) : ∀ x, updm (gbad I l) a (.int .i64 (I a).2) x = gbad I (if a ∈ l then l else a :: l) x := by
 intro x
 unfold updm gbad
 by_cases h : x = a
 ·subst h
  by_cases h2 : x ∈ l <;> simp [h2]
 ·by_cases h2 : a ∈ l <;> simp [h, h2]
structure FSt (w wx : World) (n0 p bs bl bb nn : Nat) (fc : Array Value) (gs gl gb : Nat → Option Value) (v : Value) (l : List Nat) : Prop where
 own : OwnU wx w.heap.size v l
 sz : w.heap.size ≤ wx.heap.size
 ptr : wx.heap[p]? = some (.cells fc 63 (0, 0))
 ms : KM wx bs nn gs
 ml : KM wx bl nn gl
 mb : KM wx bb nn gb
 bel : Below n0 w wx
 b1 : p < w.heap.size ∧ bs < w.heap.size ∧ bl < w.heap.size ∧ bb < w.heap.size
 b2 : n0 ≤ bs ∧ n0 ≤ bl ∧ n0 ≤ bb
 b3 : bs ≠ bl ∧ bs ≠ bb ∧ bl ≠ bb ∧ p ≠ bs ∧ p ≠ bl ∧ p ≠ bb
section
variable {w wx wy : World} {n0 p bs bl bb nn : Nat} {fc : Array Value} {gs gl gb : Nat → Option Value} {v : Value} {l : List Nat}
theorem FSt.base (h : FSt w wx n0 p bs bl bb nn fc gs gl gb v l) : n0 ≤ wx.heap.size := by
 have h1 := h.b1; have h2 := h.b2; have h3 := h.bel.size
 omega
theorem FSt.below (h : FSt w wx n0 p bs bl bb nn fc gs gl gb v l) (hb : Below wx.heap.size wx wy) : FSt w wy n0 p bs bl bb nn fc gs gl gb v l := by
 have hs := h.sz
 have h1 := h.b1
 have hg := grownB' hb none
 exact ⟨OwnU.kept' h.own hg (by intro k hk; cases hk), Nat.le_trans hs hb.size, (hb.block _ (by omega)).trans h.ptr, h.ms.kept hg (by simp), h.ml.kept hg (by simp), h.mb.kept hg (by simp), h.bel.trans (hb.mono h.base), h.b1, h.b2, h.b3⟩
theorem FSt.row (h : FSt w wx n0 p bs bl bb nn fc gs gl gb v l) {v' : Value} {l' : List Nat} (ho : OwnU wy w.heap.size v' l') (hg : wx.grownBy wy v.ownBlock) : FSt w wy n0 p bs bl bb nn fc gs gl gb v' l' := by
 have hs := h.sz
 have h1 := h.b1
 have h2 := h.b2
 have hlt : ∀ k, v.ownBlock = some k → w.heap.size ≤ k := fun k hk => (World.ownsRow.lt h.own k hk).1
 have hne : ∀ k, k < w.heap.size → some k ≠ v.ownBlock := fun k hk e => by have := hlt k e.symm; omega
 exact ⟨ho, Nat.le_trans hs hg.size, (hg.block _ (by omega) (hne _ h1.1)).trans h.ptr, h.ms.kept hg (hne _ h1.2.1), h.ml.kept hg (hne _ h1.2.2.1), h.mb.kept hg (hne _ h1.2.2.2), h.bel.grown hg h.base (fun k hk => by have := hlt k hk; omega), h.b1, h.b2, h.b3⟩
theorem FSt.pop (h : FSt w wx n0 p bs bl bb nn fc gs gl gb v l) {v' : Value} {l' : List Nat} (ho : OwnU wx w.heap.size v' l') : FSt w wx n0 p bs bl bb nn fc gs gl gb v' l' :=
 ⟨ho, h.sz, h.ptr, h.ms, h.ml, h.mb, h.bel, h.b1, h.b2, h.b3⟩
theorem FSt.mono (h : FSt w wx n0 p bs bl bb nn fc gs gl gb v l) {n' : Nat} (hn : nn ≤ n') : FSt w wx n0 p bs bl bb n' fc gs gl gb v l :=
 ⟨h.own, h.sz, h.ptr, h.ms.mono hn, h.ml.mono hn, h.mb.mono hn, h.bel, h.b1, h.b2, h.b3⟩
theorem FSt.map1 {gs' gl' gb' : Nat → Option Value} (h : FSt w wx n0 p bs bl bb nn fc gs gl gb v l) (b : Nat) (hb : b = bs ∨ b = bl ∨ b = bb) (hg : wx.grownBy wy (some b)) (k1 : KM wy bs (nn + 1) gs') (k2 : KM wy bl (nn + 1) gl') (k3 : KM wy bb (nn + 1) gb') : FSt w wy n0 p bs bl bb (nn + 1) fc gs' gl' gb' v l := by
 have hs := h.sz
 have h1 := h.b1
 have h2 := h.b2
 have h3 := h.b3
 refine ⟨OwnU.kept' h.own hg (by rintro k ⟨⟩; left; omega), Nat.le_trans hs hg.size, (hg.block _ (by omega) (fun e => by injection e with e; omega)).trans h.ptr, k1, k2, k3, h.bel.grown hg h.base (by rintro k ⟨⟩; omega), h.b1, h.b2, h.b3⟩
theorem FSt.putS (h : FSt w wx n0 p bs bl bb nn fc gs gl gb v l) {g' : Nat → Option Value} (hk : KM wy bs (nn + 1) g') (hg : wx.grownBy wy (some bs)) : FSt w wy n0 p bs bl bb (nn + 1) fc g' gl gb v l := by
 have h3 := h.b3
 exact h.map1 bs (.inl rfl) hg hk ((h.ml.kept hg (fun e => by injection e with e; omega)).mono (Nat.le_succ _)) ((h.mb.kept hg (fun e => by injection e with e; omega)).mono (Nat.le_succ _))
theorem FSt.putL (h : FSt w wx n0 p bs bl bb nn fc gs gl gb v l) {g' : Nat → Option Value} (hk : KM wy bl (nn + 1) g') (hg : wx.grownBy wy (some bl)) : FSt w wy n0 p bs bl bb (nn + 1) fc gs g' gb v l := by
 have h3 := h.b3
 exact h.map1 bl (.inr (.inl rfl)) hg ((h.ms.kept hg (fun e => by injection e with e; omega)).mono (Nat.le_succ _)) hk ((h.mb.kept hg (fun e => by injection e with e; omega)).mono (Nat.le_succ _))
theorem FSt.putB (h : FSt w wx n0 p bs bl bb nn fc gs gl gb v l) {g' : Nat → Option Value} (hk : KM wy bb (nn + 1) g') (hg : wx.grownBy wy (some bb)) : FSt w wy n0 p bs bl bb (nn + 1) fc gs gl g' v l := by
 have h3 := h.b3
 exact h.map1 bb (.inr (.inr rfl)) hg ((h.ms.kept hg (fun e => by injection e with e; omega)).mono (Nat.le_succ _)) ((h.ml.kept hg (fun e => by injection e with e; omega)).mono (Nat.le_succ _)) hk
end
abbrev fcv (B E : Int) (A : Option Addr) (n cap : Nat) (S : Int) (bs bl bb : Nat) : Array Value := #[.int .u32 B, .int .u32 E, .slice A n cap, .int .i64 S, .map (some bs), .map (some bl), .map (some bb)]
theorem fcells {wx : World} {p : Nat} {B E : Int} {A : Option Addr} {n cap : Nat} {S : Int} {bs bl bb : Nat} {t : TypeId} {fr : Nat × Nat} (h : wx.heap[p]? = some (.cells (fcv B E A n cap S bs bl bb) t fr)) :
  wx.cell? ⟨p, 0, none⟩ = some (.int .u32 B) ∧ wx.cell? ⟨p, 1, none⟩ = some (.int .u32 E) ∧ wx.cell? ⟨p, 2, none⟩ = some (.slice A n cap) ∧ wx.cell? ⟨p, 3, none⟩ = some (.int .i64 S) ∧ wx.cell? ⟨p, 4, none⟩ = some (.map (some bs)) ∧ wx.cell? ⟨p, 5, none⟩ = some (.map (some bl)) ∧ wx.cell? ⟨p, 6, none⟩ = some (.map (some bb)) := by
 simp [World.cell?, h]
theorem zI (w : World) : (zeroValue 23).run Try.prog w = .ok (iv ins0) w := by kernel_rfl
theorem rrun_nil (I : Nat → Ins × Int) (aft : Ins → Nat → List Nat) (nd : Ins → Bool) (k : Nat) (s : RS) (h : s.left = []) : rrun I aft nd k s = s := by
 induction k with
 | zero => rfl
 | succ k ih =>
  have e : rstep I aft nd s = s := by unfold rstep; rw [h]
  show rrun I aft nd k (rstep I aft nd s) = s
  rw [e, ih]
structure RSt (w wx : World) (n0 p bs bl bb n F L : Nat) (fc : Array Value) (I : Nat → Ins × Int) (aft : Ins → Nat → List Nat) (nd : Ins → Bool) (T : RS) (k : Nat) (v : Value) (s : RS) (nn : Nat) : Prop where
 f : FSt w wx n0 p bs bl bb nn fc (gseen I s.seen) (glead s.lead) (gbad I s.bad) v s.left.reverse
 tot : T = rrun I aft nd k s
 nb : nn + 4 * k ≤ n + 4 * F
 len : s.left.length + 2 * k ≤ L + 2 * F
 rng : ∀ a ∈ s.left, a < 4294967296
abbrev AfterC (aft : Ins → Nat → List Nat) : Prop := ∀ op rd u v m a w, Calls Try.prog 13 #[iv (op, rd, u, v, m), .int .u32 ((a : Nat) : Int)] w fun e w' => ∃ y, e = .returned y ∧ OwnU w' w.heap.size y (aft (op, rd, u, v, m) a) ∧ Below w.heap.size w w'
abbrev EndsC (nd : Ins → Bool) : Prop := ∀ op rd u v m w, Calls Try.prog 15 #[iv (op, rd, u, v, m)] w fun e w' => e = .returned (.bool (nd (op, rd, u, v, m))) ∧ Below w.heap.size w w'
abbrev AtC (n0 : Nat) (w : World) (B E : Int) (A : Option Addr) (n cap : Nat) (S : Int) (I : Nat → Ins × Int) : Prop := ∀ (a : Nat) (w' : World), a < 4294967296 → Below n0 w w' → Calls Try.prog 42 #[imv B E A n cap S, .int .u32 (a : Int)] w' fun e w'' => e = .returned (.tuple #[iv (I a).1, .int .i64 (I a).2]) ∧ Below w'.heap.size w' w''
set_option maxHeartbeats 8000000 in
theorem reach_calls (n0 p bs bl bb n L F : Nat) (B E : Int) (A : Option Addr) (len cap : Nat) (S : Int) (I : Nat → Ins × Int) (aft : Ins → Nat → List Nat) (nd : Ins → Bool) (s0 : RS) (w : World) (A0 : Option Addr) (c0 : Nat)
  (afterC : AfterC aft) (endsC : EndsC nd) (atC : AtC n0 w B E A len cap S I) (ha2 : ∀ x a, (aft x a).length ≤ 2 ∧ ∀ b ∈ aft x a, b < 4294967296)
  (fl : List Nat) (M : Nat) (hM : fl.length = M) (hfl : s0.left.reverse = fl) (hr : RdU w A0 fl) (hrng : ∀ a ∈ s0.left, a < 4294967296) (hL : s0.left.length ≤ L) (hLs : L + 2 * F < 1000000) (hn : n + 4 * F < 1000000)
  (hf : FSt w w n0 p bs bl bb n (fcv B E A len cap S bs bl bb) (gseen I s0.seen) (glead s0.lead) (gbad I s0.bad) (.slice none 0 0) [])
  (T : RS) (hT : T = rrun I aft nd F s0) (hfin : T.left = []) :
  Calls Try.prog 35 #[.pointer (some ⟨p, 0, none⟩), .slice A0 M c0] w fun e w' => e = .returned (.tuple #[]) ∧ ∃ v nn, nn ≤ n + 4 * F ∧ FSt w w' n0 p bs bl bb nn (fcv B E A len cap S bs bl bb) (gseen I T.seen) (glead T.lead) (gbad I T.bad) v [] := by
 have hlen : fl.length < 1000000 := by rw [← hfl, List.length_reverse]; omega
 have hcl := Clone_calls A0 c0 fl w hr hlen
 rw [hM] at hcl
 have CL := Lib.hid hcl
 have HFL := Lib.hid hfl
 clear hcl hlen hM
 have AF := Lib.hid afterC
 have EN := Lib.hid endsC
 have AT := Lib.hid atC
 have A2 := Lib.hid ha2
 have HR := Lib.hid hr
 have HRG := Lib.hid hrng
 have HF := Lib.hid hf
 have HT := Lib.hid hT
 have HN := Lib.hid hfin
 have HL := Lib.hid hL
 have HLs := Lib.hid hLs
 have Hn := Lib.hid hn
 clear afterC endsC atC ha2 hr hrng hf hT hfin hL hLs hn hfl
 go_enter Try.func35, Try.ntmps35
 go_wp2_with (go_at_call 36; refine hold_ ?_)
 intro _
 refine CL.out.mono ?_
 rintro e w1 ⟨v, rfl, ho, hb⟩
 have HS : Hid (RSt w w1 n0 p bs bl bb n F L (fcv B E A len cap S bs bl bb) I aft nd T F v s0 n) := by
  have h1 := HF.out.below hb
  rw [← HFL.out] at ho
  exact Lib.hid ⟨h1.pop ho, HT.out, Nat.le_refl _, by have := HL.out; omega, HRG.out⟩
 clear ho hb
 go_simp
 try rw [Oper.upon_value]
 go_wp2
 go_loopg [4] F (fun k s4 wx => ∃ (st : RS) (nn : Nat), Hid (k ≤ F) ∧ Hid (RSt w wx n0 p bs bl bb n F L (fcv B E A len cap S bs bl bb) I aft nd T k s4 st nn))
 case atStart => exact ⟨_, _, Lib.hid (Nat.le_refl _), HS⟩
 case round =>
  clear HS
  obtain ⟨st, nn, HK, HS⟩ := hrel
  obtain ⟨sl, ss, sd, sb⟩ := st
  cases sl with
  | nil =>
   have hv : ∃ o cp, u4 = .slice o 0 cp := by
    obtain ⟨o, cp, e, _⟩ := HS.out.f.own.opt
    exact ⟨o, cp, e⟩
   obtain ⟨o, cp, rfl⟩ := hv
   go_wp2
   go_end0
   have e : T = ⟨[], ss, sd, sb⟩ := HS.out.tot.trans (rrun_nil I aft nd gk _ rfl)
   rw [e]
   refine ⟨rfl, _, nn, ?_, HS.out.f⟩
   have := HS.out.nb
   omega
  | cons a l =>
   have hv : ∃ g cp, u4 = .slice (some ⟨g, 0, none⟩) (l.length + 1) cp ∧ l.length + 1 ≤ cp := by
    obtain ⟨o, cp, e, hle, hrd⟩ := HS.out.f.own.opt
    rcases HS.out.f.own.2 with ⟨_, h2⟩ | ⟨g, cap', cur, e2, _⟩
    ·simp at h2
    ·rw [e2] at e
     injection e with e3 e4 e5
     refine ⟨g, cap', by rw [e2]; simp, ?_⟩
     rw [e5]
     simpa using hle
   obtain ⟨g, cp, rfl, hcp⟩ := hv
   obtain ⟨N, hNl⟩ : ∃ N, l.length = N := ⟨_, rfl⟩
   simp only [hNl] at HS hcp ⊢
   have ca : wr.cell? ⟨g, N, none⟩ = some (.int .u32 (a : Int)) := by
    have := OwnU.cellAt HS.out.f.own N (by simp; omega)
    rw [this]
    simp [uc, ← hNl]
   have hq : l.length + 1 + 2 * gk ≤ L + 2 * F := HS.out.len
   have hNb : N + 1 < 1000000 := by have := HLs.out; omega
   have ha : a < 4294967296 := HS.out.rng a (by simp)
   have hgk : ∃ k, gk = k + 1 := by
    refine ⟨gk - 1, ?_⟩
    suffices 0 < gk by omega
    rcases Nat.eq_zero_or_pos gk with h | h
    ·subst h
     have := HS.out.tot
     have h2 := HN.out
     rw [this] at h2
     cases h2
    ·exact h
   obtain ⟨k, rfl⟩ := hgk
   have HQ := Lib.hid hq
   have HNl := Lib.hid hNl
   have hOl : OwnU wr w.heap.size (.slice (some ⟨g, 0, none⟩) N cp) l.reverse := by
    have := OwnU.pre HS.out.f.own N (by simp; omega)
    rw [show ((⟨a :: l, ss, sd, sb⟩ : RS).left.reverse.take N) = l.reverse by simp [← hNl]] at this
    exact this
   have HO := Lib.hid hOl
   obtain ⟨k0, k1, k2, k3, k4, k5, k6⟩ := fcells HS.out.f.ptr
   have MS := Lib.hid HS.out.f.ms
   clear hq hNl hOl
   by_cases hs : a ∈ ss
   ·have hg0 := Lib.hid (show gseen I ss a = some (iv (I a).1) by simp [gseen, hs])
    have HSS := Lib.hid hs
    clear hs
    go_wp2_with (at_lookup; refine wp_look2 rfl _ _ _ 23 rfl Try.underlying59 (iv ins0) (zI _) bs nn _ rfl MS.out a ha rfl _ hg0.out ?_)
    go_roundg k
    case measure => omega
    case rel =>
     refine ⟨⟨l, ss, sd, sb⟩, nn, Lib.hid (by have := HK.out; omega), Lib.hid ⟨(HS.out.f.pop HO.out).below ((Below.refl _ wr).alloc (Nat.le_refl _) _), ?_, ?_, ?_, ?_⟩⟩
     ·rw [HS.out.tot]
      show rrun I aft nd k (rstep I aft nd _) = _
      rw [show rstep I aft nd ⟨a :: l, ss, sd, sb⟩ = ⟨l, ss, sd, sb⟩ by simp [rstep, HSS.out]]
     ·have := HS.out.nb; omega
     ·have := HQ.out; show l.length + 2 * k ≤ L + 2 * F; omega
     ·exact fun b hb => HS.out.rng b (by simp [hb])
   ·have hg0 := Lib.hid (show gseen I ss a = none by simp [gseen, hs])
    have HSS := Lib.hid hs
    clear hs
    clear k0 k1 k2 k3 k5 k6
    go_wp2_with (first
     | (at_lookup; refine wp_look2 rfl _ _ _ 23 rfl Try.underlying59 (iv ins0) (zI _) bs nn _ rfl MS.out a ha rfl _ hg0.out ?_)
     | ((with_reducible refine gate_dst (N := 43) rfl ?_); refine hold_ ?_))
    intro _
    have FA := Lib.hid ((HS.out.f.pop HO.out).below ((Below.refl _ wr).alloc (Nat.le_refl _) (.cells #[.int .i64 ins0.1, .int .i64 ins0.2.1, .int .i64 ins0.2.2.1, .int .i64 ins0.2.2.2.1, .int .i64 ins0.2.2.2.2] 23)))
    generalize wr.alloc (.cells #[.int .i64 ins0.1, .int .i64 ins0.2.1, .int .i64 ins0.2.2.1, .int .i64 ins0.2.2.2.1, .int .i64 ins0.2.2.2.2] 23) = wA at *
    obtain ⟨k0, k1, k2, k3, k4', k5, k6⟩ := fcells FA.out.ptr
    have hatC := AT.out a wA ha FA.out.bel
    have AC := Lib.hid hatC
    clear k4 ca hatC MS
    go_wp2_with (go_at_call 42; refine hold_ ?_)
    intro _
    refine AC.out.mono ?_
    rintro e wB ⟨rfl, hbB⟩
    have FB := Lib.hid (FA.out.below hbB)
    clear hbB k0 k1 k2 k3 k4' k5 k6 FA
    go_simp
    try rw [Oper.upon_value]
    obtain ⟨⟨o1, o2, o3, o4, o5⟩, hx5⟩ : ∃ x, (I a).1 = x := ⟨_, rfl⟩
    obtain ⟨ev, hev⟩ : ∃ e, (I a).2 = e := ⟨_, rfl⟩
    rw [hx5, hev]
    have HX := Lib.hid hx5
    have HV := Lib.hid hev
    clear hx5 hev
    by_cases he : ev = 0
    ·subst he
     go_wp2
     have FC := Lib.hid ((FB.out.below ((Below.refl _ wB).alloc (Nat.le_refl _) (.cells #[.int .i64 o1, .int .i64 o2, .int .i64 o3, .int .i64 o4, .int .i64 o5] 23))).below (Below.refl _ _).drew)
     have KC : (wB.alloc (.cells #[.int .i64 o1, .int .i64 o2, .int .i64 o3, .int .i64 o4, .int .i64 o5] 23)).heap[wB.heap.size]? = some (.cells #[.int .i64 o1, .int .i64 o2, .int .i64 o3, .int .i64 o4, .int .i64 o5] 23 (0, 0)) := (MapKept.heap_alloc _ _).1
     have hg1 : g < wB.heap.size := (World.ownsRow.lt FB.out.own g rfl).2
     have hg2 : w.heap.size ≤ wB.heap.size := FB.out.sz
     have hg3 : wB.heap.size < (wB.alloc (.cells #[.int .i64 o1, .int .i64 o2, .int .i64 o3, .int .i64 o4, .int .i64 o5] 23)).heap.size := by simp
     obtain ⟨k0, k1, k2, k3, k4', k5, k6⟩ := fcells (wx := wB.alloc (.cells #[.int .i64 o1, .int .i64 o2, .int .i64 o3, .int .i64 o4, .int .i64 o5] 23)) FC.out.ptr
     clear k0 k1 k2 k3 k5 k6
     have hbs : bs < w.heap.size := FB.out.b1.2.1
     have hpl : p < w.heap.size := FB.out.b1.1
     have hnn : nn < maxLen := by have h1 := HS.out.nb; have h2 := Hn.out; unfold maxLen; omega
     generalize wB.alloc (.cells #[.int .i64 o1, .int .i64 o2, .int .i64 o3, .int .i64 o4, .int .i64 o5] 23) = wC at *
     generalize wB.heap.size = gc at *
     clear FB
     have KC' := Lib.hid KC
     refine wp_region_held_drew (S := fun w' => w'.cell? ⟨p, 4, none⟩ = some (.map (some bs)) ∧ w'.heap[gc]? = some (.cells #[.int .i64 o1, .int .i64 o2, .int .i64 o3, .int .i64 o4, .int .i64 o5] 23 (0, 0))) (by kernel_rfl) ⟨k4', KC⟩ (fun hHeld => ?_)
     clear KC k4'
     refine rq (v := ?_) 0 56 rfl rfl (Or.inl ⟨by rfl, ?_⟩) hHeld ?_
     rotate_left
     ·(intro w hSw; obtain ⟨s1, s2⟩ := hSw; obtain ⟨t0, t1, t2, t3, t4⟩ := cells5 (x := (o1, o2, o3, o4, o5)) s2; clear s2; try simp only at t0 t1 t2 t3 t4; go_simp; try with_reducible rfl)
     simp only [Act.put, sa, s0', s1']
     refine rq (v := ?_) 1 57 rfl rfl (Or.inl ⟨by rfl, ?_⟩) hHeld ?_
     rotate_left
     ·(intro w hSw; obtain ⟨s1, s2⟩ := hSw; obtain ⟨t0, t1, t2, t3, t4⟩ := cells5 (x := (o1, o2, o3, o4, o5)) s2; clear s2; try simp only at t0 t1 t2 t3 t4; go_simp; try with_reducible rfl)
     simp only [Act.put, sa, s0', s1']
     refine rq (v := ?_) 2 58 rfl rfl (Or.inl ⟨by rfl, ?_⟩) hHeld ?_
     rotate_left
     ·(intro w hSw; obtain ⟨s1, s2⟩ := hSw; obtain ⟨t0, t1, t2, t3, t4⟩ := cells5 (x := (o1, o2, o3, o4, o5)) s2; clear s2; try simp only at t0 t1 t2 t3 t4; go_simp; try with_reducible rfl)
     simp only [Act.put, sa, s0', s1']
     refine rq (v := ?_) 3 59 rfl rfl (Or.inl ⟨by rfl, ?_⟩) hHeld ?_
     rotate_left
     ·(intro w hSw; obtain ⟨s1, s2⟩ := hSw; obtain ⟨t0, t1, t2, t3, t4⟩ := cells5 (x := (o1, o2, o3, o4, o5)) s2; clear s2; try simp only at t0 t1 t2 t3 t4; go_simp; try with_reducible rfl)
     simp only [Act.put, sa, s0', s1']
     refine rq (v := ?_) 4 60 rfl rfl (Or.inl ⟨by rfl, ?_⟩) hHeld ?_
     rotate_left
     ·(intro w hSw; obtain ⟨s1, s2⟩ := hSw; obtain ⟨t0, t1, t2, t3, t4⟩ := cells5 (x := (o1, o2, o3, o4, o5)) s2; clear s2; try simp only at t0 t1 t2 t3 t4; go_simp; try with_reducible rfl)
     simp only [Act.put, sa, s0', s1']
     refine rq (v := ?_) 5 61 rfl rfl (Or.inl ⟨by rfl, ?_⟩) hHeld ?_
     rotate_left
     ·(intro w hSw; obtain ⟨s1, s2⟩ := hSw; obtain ⟨t0, t1, t2, t3, t4⟩ := cells5 (x := (o1, o2, o3, o4, o5)) s2; clear s2; try simp only at t0 t1 t2 t3 t4; go_simp; try with_reducible rfl)
     simp only [Act.put, sa, s0', s1']
     refine wpAnyH_ready (rs := [6]) (by kernel_rfl) (by simp) ?_
     refine AllReadyH.cons (i := 6) rfl (fun K hK => ?_) AllReadyH.nil
     rw [if_pos (by rfl)]
     refine wp_putO _ _ _ 59 23 rfl Try.underlying59 bs nn _ rfl FC.out.ms hnn a ha (iv (o1, o2, o3, o4, o5)) rfl rfl ?_
     intro wD hkm hgm
     have FD := Lib.hid (FC.out.putS (KM.congr (g' := gseen I (a :: ss)) hkm (fun x => by have := gseen_put I ss a x; rw [HX.out] at this; exact this)) hgm)
     have KD : wD.heap[gc]? = some (.cells #[.int .i64 o1, .int .i64 o2, .int .i64 o3, .int .i64 o4, .int .i64 o5] 23 (0, 0)) := (hgm.block gc hg3 (fun e => by injection e with e; omega)).trans KC'.out
     have hg4 : gc < wD.heap.size := Nat.lt_of_lt_of_le hg3 hgm.size
     refine hK.out _ _ ⟨(fcells FD.out.ptr).2.2.2.2.1, KD⟩ (fun hHeld => ?_)
     clear hK K
     try simp only [Act.put, sa, s0', s1']
     refine wpAnyH_done (by kernel_rfl) ?_ _
     clear hHeld FC hkm hgm hg3 hnn KC'
     have KD' := Lib.hid KD
     obtain ⟨c0', c1', c2', c3', c4'⟩ := cells5 (x := (o1, o2, o3, o4, o5)) KD
     simp only at c0' c1' c2' c3' c4'
     clear KD
     go_simp
     go_wp2_with (go_at_call 13; refine hold_ ?_)
     intro _
     refine (AF.out o1 o2 o3 o4 o5 a wD).mono ?_
     rintro e wE ⟨y, rfl, hoy, hbE⟩
     obtain ⟨m, hm⟩ : ∃ m, aft (o1, o2, o3, o4, o5) a = m := ⟨_, rfl⟩
     have hm2 := A2.out (o1, o2, o3, o4, o5) a
     rw [hm] at hoy hm2
     obtain ⟨oy, cy, rfl, hcy, hry⟩ := hoy.opt
     have HM := Lib.hid hm
     have HM2 := Lib.hid hm2.2
     obtain ⟨Km, hKm⟩ : ∃ k, m.length = k := ⟨_, rfl⟩
     have hK2 : Km ≤ 2 := by rw [← hKm]; exact hm2.1
     have HY := Lib.hid hoy
     have HRY := Lib.hid hry
     have FE := Lib.hid (FD.out.below hbE)
     have KE := Lib.hid ((hbE.block gc hg4).trans KD'.out)
     have hg5 : gc < wE.heap.size := Nat.lt_of_lt_of_le hg4 hbE.size
     have hDs : wD.heap.size ≤ wE.heap.size := hbE.size
     have hgD : g < wD.heap.size := by omega
     clear hm hm2 hoy hry hbE FD KD' c0' c1' c2' c3' c4'
     rw [hKm] at HY ⊢
     have HKm := Lib.hid hKm
     clear hKm
     go_simp
     try rw [Oper.upon_value]
     go_wp2_with (first
      | (refine wp_appU rfl _ _ rfl w.heap.size (.slice (some ⟨g, 0, none⟩) N cp) l.reverse m oy cy Km HKm.out rfl FE.out.own rfl HRY.out (by rw [List.length_reverse, HNl.out]; omega) (by rw [HKm.out]; omega) FE.out.sz ?_; intro v2 wF hoF hgF)
      | ((with_reducible refine gate_dst (N := 68) rfl ?_); refine hold_ ?_))
     intro _
     have hgF' : wE.grownBy wF (some g) := hgF
     have FF := Lib.hid (FE.out.row hoF hgF)
     have HYF := Lib.hid (OwnU.kept' HY.out hgF' (by rintro k ⟨⟩; left; exact hgD))
     have hD2 : wD.heap.size ≤ wF.heap.size := Nat.le_trans hDs hgF.size
     have hg6 : gc < wF.heap.size := Nat.lt_of_lt_of_le hg5 hgF.size
     have KF := (hgF'.block gc hg5 (fun e => by injection e with e; omega)).trans KE.out
     have KF' := Lib.hid KF
     obtain ⟨c0', c1', c2', c3', c4'⟩ := cells5 (x := (o1, o2, o3, o4, o5)) KF
     simp only at c0' c1' c2' c3' c4'
     clear hgF hgF' hoF FE HY HRY KE KF hg5
     go_wp2_with (go_at_call 15; refine hold_ ?_)
     intro _
     refine (EN.out o1 o2 o3 o4 o5 wF).mono ?_
     rintro e wG ⟨rfl, hbG⟩
     have FG := Lib.hid (FF.out.below hbG)
     have HYG := Lib.hid (OwnU.kept' HYF.out (grownB' hbG none) (by intro k hk; cases hk))
     have hD3 : wD.heap.size ≤ wG.heap.size := Nat.le_trans hD2 hbG.size
     clear hbG FF HYF KF' c0' c1' c2' c3' c4' hD2 hg6
     obtain ⟨nv, hnv⟩ : ∃ b, nd (o1, o2, o3, o4, o5) = b := ⟨_, rfl⟩
     rw [hnv]
     have HNV := Lib.hid hnv
     clear hnv
     have stp : Hid (rstep I aft nd ⟨a :: l, ss, sd, sb⟩ = ⟨m.reverse ++ l, a :: ss, if nv = true then m.reverse ++ sd else sd, sb⟩) := Lib.hid (by simp [rstep, HSS.out, HV.out, HX.out, HM.out, HNV.out])
     go_simp
     try rw [Oper.upon_value]
     cases nv with
     | false =>
      go_wp2
      go_roundg k
      case measure => omega
      case rel =>
       refine ⟨⟨m.reverse ++ l, a :: ss, sd, sb⟩, nn + 1, Lib.hid (by have := HK.out; omega), Lib.hid ⟨?_, ?_, ?_, ?_, ?_⟩⟩
       ·have := FG.out
        simpa using this
       ·rw [HS.out.tot]
        show rrun I aft nd k (rstep I aft nd _) = _
        rw [stp.out]
        rfl
       ·have := HS.out.nb; omega
       ·have := HQ.out; show (m.reverse ++ l).length + 2 * k ≤ L + 2 * F; rw [List.length_append, List.length_reverse, HKm.out]; omega
       ·intro b hb
        rcases List.mem_append.1 hb with hb | hb
        ·exact HM2.out b (List.mem_reverse.1 hb)
        ·exact HS.out.rng b (by simp [hb])
     | true =>
      go_wp2
      go_loopw [72] (fun s72 wx => ∃ (j : Nat), j ≤ Km ∧ s72 = .int .i64 j ∧ Hid (FSt w wx n0 p bs bl bb (nn + 1 + j) (fcv B E A len cap S bs bl bb) (gseen I (a :: ss)) (glead ((m.take j).reverse ++ sd)) (gbad I sb) v2 (l.reverse ++ m)) ∧ Hid (OwnU wx wD.heap.size (.slice oy Km cy) m)) (fun s72 _ => Km - (intOf s72).toNat)
      case atStart => exact ⟨0, Nat.zero_le _, rfl, Lib.hid (by rw [List.take_zero]; exact FG.out), HYG⟩
      case round =>
       clear FG HYG
       obtain ⟨j, hjK, rfl, FG, HYG⟩ := hrel
       by_cases hlt : j < Km
       ·obtain ⟨g2, rfl⟩ : ∃ g2, oy = some ⟨g2, 0, none⟩ := by
         rcases HYG.out.2 with ⟨_, h2⟩ | ⟨g2, cap', cur, e2, _⟩
         ·rw [HKm.out] at h2; omega
         ·injection e2 with e3
          exact ⟨g2, e3⟩
        obtain ⟨b, hb⟩ : ∃ b, m[j]? = some b := ⟨_, List.getElem?_eq_getElem (by rw [HKm.out]; exact hlt)⟩
        have hb2 : b < 4294967296 := HM2.out b (List.mem_of_getElem? hb)
        have cb : wr.cell? ⟨g2, j, none⟩ = some (.int .u32 (b : Int)) := by
         have := OwnU.cellAt HYG.out j (by rw [HKm.out]; exact hlt)
         rw [this, List.getD_eq_getElem?_getD, hb]
         rfl
        have HB := Lib.hid hb
        obtain ⟨k0, k1, k2, k3, k4', k5, k6⟩ := fcells FG.out.ptr
        clear hb k0 k1 k2 k3 k4' k6
        have hnn : nn + 1 + j < maxLen := by have h1 := HS.out.nb; have h2 := Hn.out; unfold maxLen; omega
        go_wp2_with (at_mapUpdate; refine wp_put rfl _ _ _ 60 4 (.inl rfl) Try.underlying60 bl (nn + 1 + j) _ rfl FG.out.ml hnn b hb2 (.bool true) rfl rfl ?_; intro wH hkm hgm)
        refine ⟨⟨j + 1, by omega, by go_num, Lib.hid ?_, Lib.hid ?_⟩, by simp [intOf]; omega⟩
        ·refine FG.out.putL (KM.congr hkm (fun x => ?_)) hgm
         rw [glead_put, List.take_add_one, HB.out, List.reverse_append]
         rfl
        ·refine OwnU.kept' HYG.out hgm ?_
         rintro k' ⟨⟩
         left
         have h1 := FG.out.b1
         have h2 : w.heap.size ≤ gc := hg2
         omega
       ·have hjK' : j = Km := by omega
        subst hjK'
        go_wp2
        go_roundg k
        case measure => omega
        case rel =>
         refine ⟨⟨m.reverse ++ l, a :: ss, m.reverse ++ sd, sb⟩, nn + 1 + j, Lib.hid (by have := HK.out; omega), Lib.hid ⟨?_, ?_, ?_, ?_, ?_⟩⟩
         ·have := FG.out
          rw [List.take_of_length_le (by rw [HKm.out]; exact Nat.le_refl _)] at this
          simpa using this
         ·rw [HS.out.tot]
          show rrun I aft nd k (rstep I aft nd _) = _
          rw [stp.out]
          rfl
         ·have := HS.out.nb; omega
         ·have := HQ.out; show (m.reverse ++ l).length + 2 * k ≤ L + 2 * F; rw [List.length_append, List.length_reverse, HKm.out]; omega
         ·intro b hb
          rcases List.mem_append.1 hb with hb | hb
          ·exact HM2.out b (List.mem_reverse.1 hb)
          ·exact HS.out.rng b (by simp [hb])
    ·have hne : (ev == 0) = false := beq_eq_false_iff_ne.mpr he
     have HE := Lib.hid he
     clear he
     go_wp2_with ((with_reducible refine gate_dst (N := 53) rfl ?_); refine hold_ ?_)
     intro _
     have FC := Lib.hid (FB.out.below ((Below.refl _ wB).alloc (Nat.le_refl _) (.cells #[.int .i64 o1, .int .i64 o2, .int .i64 o3, .int .i64 o4, .int .i64 o5] 23)))
     generalize wB.alloc (.cells #[.int .i64 o1, .int .i64 o2, .int .i64 o3, .int .i64 o4, .int .i64 o5] 23) = wC at *
     obtain ⟨k0, k1, k2, k3, k4', k5, k6⟩ := fcells FC.out.ptr
     have hnn : nn < maxLen := by have h1 := HS.out.nb; have h2 := Hn.out; unfold maxLen; omega
     go_wp2_with (at_mapUpdate; refine wp_put rfl _ _ _ 61 35 (.inl rfl) Try.underlying61 bb nn _ rfl FC.out.mb hnn a ha _ rfl rfl ?_; intro wD hkm hgm)
     go_roundg k
     case measure => omega
     case rel =>
      refine ⟨⟨l, ss, sd, if a ∈ sb then sb else a :: sb⟩, nn + 1, Lib.hid (by have := HK.out; omega), Lib.hid ⟨FC.out.putB (KM.congr hkm (fun x => by rw [← HV.out]; exact gbad_put I sb a x)) hgm, ?_, ?_, ?_, ?_⟩⟩
      ·rw [HS.out.tot]
       show rrun I aft nd k (rstep I aft nd _) = _
       rw [show rstep I aft nd ⟨a :: l, ss, sd, sb⟩ = ⟨l, ss, sd, if a ∈ sb then sb else a :: sb⟩ by simp [rstep, HSS.out, HV.out, HE.out]]
      ·have := HS.out.nb; omega
      ·have := HQ.out; show l.length + 2 * k ≤ L + 2 * F; omega
      ·exact fun b hb => HS.out.rng b (by simp [hb])
end Go.Proofs.Ytekenddkoahjgaa.Bl
