import Derived.Test.YtcjbdfhofpfooaaZGE
import Derived.RangeFuncNested
import Derived.RangeFuncBound
import Derived.RangeFuncCalls
import Derived.RangeFuncLeaves
import Derived.RangeFuncBox
import Derived.Maps.OwnIn
import Derived.RangeFuncMany
import Derived.RangeFuncOne
import Derived.Shelf.Abstract
import Derived.Shelf.RegionOpen
import Derived.WalkKit
import Derived.OwnWalkIn
import Derived.TacticsInMore
import Derived.RegionIn
import Derived.LoopNIn
import Derived.LoopIn
import Derived.Maps.AppendAt
import Derived.KernelRfl
import Derived.StillTailTactics
import Derived.Outline
import Derived.RegionTactic
import Derived.ChangeAlike
import Derived.BigRegion
import Derived.Deep.RegionWith
import Derived.LoopTactic
import Derived.BigQuiet
import Derived.Lib.Hide
/- Layer 18: the walks of package grammar (part GF). -/
namespace Go.Proofs.Ytcjbdfhofpfooaa.Gm
open Go.RowKit Go.Maps Go.Shelf Go.Proofs
set_option linter.unusedVariables false
set_option linter.unusedSimpArgs false
attribute [local go_sem] Oper.semAt_some
/-! ## grammar.Insts, grammar.runs -/
theorem OwnI_lower {w : World} {base base' : Nat} {v : Value} {l : List In} (h : OwnI w base v l) (hb : base' ≤ base) : OwnI w base' v l := by
  refine ⟨h.1, ?_⟩
  rcases h.2 with hn | ⟨g, cap, cur, e, hbb, rest⟩
  · exact .inl hn
  · exact .inr ⟨g, cap, cur, e, Nat.le_trans hb hbb, rest⟩
def insv (frm : Int → Int) (rgt : In → Bool) (knd : Int → Bool) (ops regs imms : List Int) (len : Int) : List In := if chkv frm rgt knd ops regs imms len = 0 then allL frm rgt ops regs imms else []
set_option maxHeartbeats 4000000 in
theorem Insts_calls (frm : Int → Int) (rgt : In → Bool) (knd : Int → Bool) (hF : FormC frm) (hRt : RightC rgt) (hK : KindC knd) (o0 o1 o2 : Option Addr) (m0 m1 m2 c0 c1 c2 : Nat) (len : Int) (w : World) (ops regs imms : List Int)
    (ho : ReadN w.heap.size w (.slice o0 m0 c0) ops) (hr : ReadN w.heap.size w (.slice o1 m1 c1) regs) (hi : ReadN w.heap.size w (.slice o2 m2 c2) imms) (l0 : ops.length ≤ 99) (l1 : regs.length ≤ 99) (l2 : imms.length ≤ 99) :
    Calls Try.prog 19 #[.agg #[.slice o0 m0 c0, .slice o1 m1 c1, .slice o2 m2 c2, .int .i64 len]] w fun e w' => ∃ v, e = .returned (.tuple #[v, .int .i64 (chkv frm rgt knd ops regs imms len)]) ∧ OwnI w' w.heap.size v (insv frm rgt knd ops regs imms len) ∧ Below w.heap.size w w' := by
  have HF := Lib.hid hF; have HR := Lib.hid hRt; have HK := Lib.hid hK
  have H0 := Lib.hid ho; have H1 := Lib.hid hr; have H2 := Lib.hid hi
  clear hF hRt hK ho hr hi
  have hb0 : Below w.heap.size w (w.alloc (.cells #[.slice o0 m0 c0, .slice o1 m1 c1, .slice o2 m2 c2, .int .i64 len] 31)) := (Below.refl _ _).alloc (Nat.le_refl _) _
  have HB0 := Lib.hid hb0
  clear hb0
  by_cases hc : chkv frm rgt knd ops regs imms len = 0
  · have HC := Lib.hid hc
    have hl : (allL frm rgt ops regs imms).length ≤ 4096 := by
      unfold chkv at hc
      split at hc
      · cases hc
      · split at hc
        · cases hc
        · omega
    rw [show insv frm rgt knd ops regs imms len = allL frm rgt ops regs imms by unfold insv; rw [if_pos hc], hc]
    have HL := Lib.hid hl
    clear hc hl
    go_enter Try.func19, Try.ntmps19
    go_wp2_with (go_at_call 22; refine hold_ ?_)
    intro _
    refine (Check_calls frm rgt knd HF.out HR.out HK.out o0 o1 o2 m0 m1 m2 c0 c1 c2 len _ ops regs imms ((H0.out.below HB0.out).mono (by simp)) ((H1.out.below HB0.out).mono (by simp)) ((H2.out.below HB0.out).mono (by simp)) l0 l1 l2).mono ?_
    rintro e w1 ⟨rfl, hb⟩
    rw [HC.out]
    have k0 : w1.cell? ⟨w.heap.size, 0, none⟩ = some (.slice o0 m0 c0) := ((bcell hb).1 _ _ (by simp)).trans (by go_simp)
    have k1 : w1.cell? ⟨w.heap.size, 1, none⟩ = some (.slice o1 m1 c1) := ((bcell hb).1 _ _ (by simp)).trans (by go_simp)
    have k2 : w1.cell? ⟨w.heap.size, 2, none⟩ = some (.slice o2 m2 c2) := ((bcell hb).1 _ _ (by simp)).trans (by go_simp)
    have k3 : w1.cell? ⟨w.heap.size, 3, none⟩ = some (.int .i64 len) := ((bcell hb).1 _ _ (by simp)).trans (by go_simp)
    have HB1 : Hid (Below w.heap.size w w1) := Lib.hid (HB0.out.trans (hb.mono (by simp)))
    have hz : w.heap.size ≤ w1.heap.size := HB1.out.size
    clear hb
    go_wp2_with (go_at_call 35; refine hold_ ?_)
    intro _
    refine (all_calls frm rgt HF.out HR.out o0 o1 o2 m0 m1 m2 c0 c1 c2 len w1 ops regs imms ((H0.out.below HB1.out).mono hz) ((H1.out.below HB1.out).mono hz) ((H2.out.below HB1.out).mono hz) l0 l1 l2).mono ?_
    rintro e w2 ⟨v, rfl, hO, hb⟩
    rw [List.take_of_length_le (by have := HL.out; omega)] at hO
    have HO := Lib.hid hO
    have HB2 := Lib.hid (HB1.out.trans (hb.mono hz))
    clear hO hb k0 k1 k2 k3
    go_wp2
    go_ret2
    exact ⟨v, rfl, OwnI_lower HO.out hz, HB2.out⟩
  · have HC := Lib.hid hc
    rw [show insv frm rgt knd ops regs imms len = [] by unfold insv; rw [if_neg hc]]
    have hb : ((chkv frm rgt knd ops regs imms len) == 0) = false := beq_eq_false_iff_ne.mpr hc
    generalize hcv : chkv frm rgt knd ops regs imms len = cv at *
    have HCV := Lib.hid hcv
    clear hc hcv
    go_enter Try.func19, Try.ntmps19
    go_wp2_with (go_at_call 22; refine hold_ ?_)
    intro _
    refine (Check_calls frm rgt knd HF.out HR.out HK.out o0 o1 o2 m0 m1 m2 c0 c1 c2 len _ ops regs imms ((H0.out.below HB0.out).mono (by simp)) ((H1.out.below HB0.out).mono (by simp)) ((H2.out.below HB0.out).mono (by simp)) l0 l1 l2).mono ?_
    rintro e w1 ⟨rfl, hb⟩
    rw [HCV.out]
    have HB1 : Hid (Below w.heap.size w w1) := Lib.hid (HB0.out.trans (hb.mono (by simp)))
    clear hb
    go_wp2
    go_ret2
    exact ⟨_, rfl, World.ownsRow_nil _ _ _ _, HB1.out⟩
/-! ## grammar.runs -/
abbrev OwnN (w : World) (base : Nat) (v : Value) (l : List Int) : Prop := w.ownsRow base 3 1 v l.length (l.map (Value.int .i64))
theorem wp_appN {w : World} {ops : Array Oper} {rest : List Oper} {o : Oper} {ac : Act} {Q : Exit → Act → World → Prop} (hg : o.guard = none) (s x : Operand) (hop : o.op = .call { callee := .builtin .append, args := #[s, x], argTypes := #[29, 29] })
    (base : Nat) (v : Value) (l : List Int) (y : Int) (hs : ac.eval s = v) (hown : OwnN w base v l) (cap : Nat) (hx : ac.eval x = .slice (some ⟨w.heap.size, 0, none⟩) 1 cap) (hl : l.length < 100000000) (hbase : base ≤ w.heap.size)
    (hK : ∀ v' w', OwnN w' base v' (l ++ [y]) → w.grownBy w' v.ownBlock → wpList Try.prog ops Q rest (ac.put o.dst v') w') :
    wpList Try.prog ops Q (o :: rest) ac (w.alloc (.cells #[.int .i64 y] 3)) := by
  obtain ⟨i0, hi, hz0, hz1, hz2⟩ := info_parts infoN
  refine wpList_append_own _ hg s x _ hop base _ i0 _ 1 8 Try.underlying29 hi hz0 hz1 hz2 rfl (by decide) v l.length (l.map (Value.int .i64)) hs (hown.alloc _) ⟨w.heap.size, 0, none⟩ 1 cap [.int .i64 y] hx rfl (cells_new w #[.int .i64 y] _) (by simp [Value.oneCell']) (by unfold maxLen; omega) (by omega) (by simp; omega) ?_
  intro v' w' h1 h2 h3
  refine hK v' w' ?_ ((World.grownBy_alloc w _ _).trans h2)
  show w'.ownsRow base _ 1 v' (l ++ [y]).length ((l ++ [y]).map (Value.int .i64))
  rw [List.map_append, List.length_append]
  simpa using h1
/-- The numbers of runs, by their lengths. -/
def pows (n k : Nat) : List Int := (List.range k).map fun j => ((n ^ j : Nat) : Int)
theorem pows_succ (n k : Nat) : pows n (k + 1) = pows n k ++ [((n ^ k : Nat) : Int)] := by simp [pows, List.range_succ]
theorem pows_len (n k : Nat) : (pows n k).length = k := by simp [pows]
theorem pows_get (n k j : Nat) (h : j < k) : (pows n k)[j]? = some ((n ^ j : Nat) : Int) := by simp [pows, h]
theorem own_optN {w : World} {base : Nat} {v : Value} {l : List Int} (h : OwnN w base v l) : ∃ o cap, v = .slice o l.length cap ∧ (0 < l.length → ∃ g, o = some ⟨g, 0, none⟩) := by
  rcases h.2 with ⟨h1, h2⟩ | ⟨g, cap, cur, e, _⟩
  · exact ⟨none, 0, by rw [h1, h2], fun h => by omega⟩
  · exact ⟨_, cap, e, fun _ => ⟨g, rfl⟩⟩
theorem pow_bd (n k : Nat) (hn : n ≤ 4096) (hk : k ≤ 3) : n ^ k ≤ 68719476736 := by
  have h1 : n ^ k ≤ 4096 ^ k := Nat.pow_le_pow_left hn k
  have h2 : 4096 ^ k ≤ 4096 ^ 3 := Nat.pow_le_pow_right (by decide) hk
  have h3 : (4096 : Nat) ^ 3 = 68719476736 := by decide
  omega
set_option maxHeartbeats 1600000 in
theorem runs_calls (n len : Nat) (hn : n ≤ 4096) (hl : len ≤ 3) (w : World) :
    Calls Try.prog 36 #[.int .i64 (n : Int), .int .i64 (len : Int)] w fun e w' => ∃ v, e = .returned v ∧ OwnN w' w.heap.size v (pows n (len + 1)) ∧ Below w.heap.size w w' := by
  have HNL := Lib.hid hn
  go_enter Try.func36, Try.ntmps36
  go_wp2
  go_loopw [5, 9] (fun v s wr => ∃ j : Nat, j ≤ len ∧ s = .int .i64 j ∧ OwnN wr w.heap.size v (pows n (j + 1)) ∧ Below w.heap.size w wr) (fun _ s _ => len - (intOf s).toNat)
  case atStart =>
    refine ⟨0, Nat.zero_le _, rfl, ?_, (Below.refl _ _).alloc (Nat.le_refl _) _⟩
    have h := World.ownsRow_lit (base := w.heap.size) (e := 3) (size := 1) w #[.int .i64 1] 1 (Nat.le_refl _) (by decide) rfl
    exact h
  case round =>
    obtain ⟨j, hj, rfl, hO, hB⟩ := hrel
    obtain ⟨o, cap, rfl, hg⟩ := own_optN hO
    obtain ⟨g, rfl⟩ := hg (by rw [pows_len]; omega)
    have HG : Hid (w.heap.size ≤ g) := Lib.hid (by rcases hO.2 with ⟨h1, _⟩ | ⟨g', cap', cur, e, hb, _⟩; · cases h1
                                                   · cases e; exact hb)
    rw [pows_len] at hO ⊢
    have hc : wr.cell? ⟨g, j, none⟩ = some (.int .i64 ((n ^ j : Nat) : Int)) := by
      have hO' : wr.ownsRow w.heap.size 3 1 (.slice (some ⟨g, 0, none⟩) (j + 1) cap) (j + 1) ((pows n (j + 1)).map (Value.int .i64)) := by have := hO; unfold OwnN at this; rw [pows_len] at this; exact this
      refine (World.ownsRow.cellAt hO' j (show j < (j + 1) * 1 by omega)).trans ?_
      simp [pows]
    by_cases hlt : j < len
    · have hb1 := pow_bd n j hn (by omega)
      have hb2 := pow_bd n (j + 1) hn (by omega)
      have hmul : (n : Int) * ((n ^ j : Nat) : Int) = ((n ^ (j + 1) : Nat) : Int) := by rw [Nat.pow_succ, Nat.mul_comm]; push_cast; rfl
      have hw : wrap64 ((n : Int) * ((n ^ j : Nat) : Int)) = ((n ^ (j + 1) : Nat) : Int) := by rw [hmul]; unfold wrap64; omega
      have HO := Lib.hid hO
      have HW := Lib.hid hw
      generalize hp : ((n ^ j : Nat) : Int) = P at *
      generalize hp2 : ((n ^ (j + 1) : Nat) : Int) = P2 at *
      have HP2 := Lib.hid hp2
      clear hO hmul hb1 hb2 hp hp2
      have hsz := hB.size
      go_wp2_with (at_builtin; refine wp_appN rfl (.tmp 12) (.tmp 19) rfl w.heap.size _ (pows n (j + 1)) P2 rfl HO.out 1 rfl (by rw [pows_len]; omega) hsz ?_)
      intro v' w' h1 h2
      rw [← HP2.out, ← pows_succ] at h1
      have HO1 := Lib.hid h1
      have HB1 := Lib.hid (hB.grown h2 hsz (fun k hk => by cases hk; exact HG.out))
      clear h1 h2 hc
      go_wp2
      go_roundw
      case rel => exact ⟨j + 1, hlt, by go_num, HO1.out, HB1.out⟩
      case measure => simp [intOf]; omega
    · obtain rfl : j = len := by omega
      clear hc
      have HO := Lib.hid hO
      clear hO
      go_wp2
      go_ret
      exact ⟨_, rfl, HO.out, hB⟩
/-! ## slices.Backward -/
/-- The row of the call's own, of N instructions. -/
def RowI (base g N cap : Nat) (W : World) : Prop := ∃ l : List In, l.length = N ∧ OwnI W base (.slice (some ⟨g, 0, none⟩) N cap) l
def KpB (Bs base g N cap : Nat) (W W' : World) : Prop := W'.heap[Bs]? = W.heap[Bs]? ∧ (RowI base g N cap W → RowI base g N cap W')
theorem KpB.trans {Bs base g N cap : Nat} {A B C : World} (h : KpB Bs base g N cap A B) (k : KpB Bs base g N cap B C) : KpB Bs base g N cap A C := ⟨k.1.trans h.1, fun r => k.2 (h.2 r)⟩
theorem own_cellI {w : World} {base g cap N : Nat} {l : List In} (hN : l.length = N) (h : OwnI w base (.slice (some ⟨g, 0, none⟩) N cap) l) (j : Nat) (x : In) (hx : l[j]? = some x) :
    w.cell? ⟨g, j * 5, none⟩ = some (.int .i64 x.op) ∧ w.cell? ⟨g, j * 5 + 1, none⟩ = some (.int .i64 x.rd) ∧ w.cell? ⟨g, j * 5 + 2, none⟩ = some (.int .i64 x.a) ∧ w.cell? ⟨g, j * 5 + 3, none⟩ = some (.int .i64 x.b) ∧ w.cell? ⟨g, j * 5 + 4, none⟩ = some (.int .i64 x.m) := by
  have h' : w.ownsRow base 25 5 (.slice (some ⟨g, 0, none⟩) N cap) N (ivs l) := by
    have := h
    unfold OwnI at this
    rw [hN] at this
    exact this
  have hj : j < l.length := (List.getElem?_eq_some_iff.1 hx).1
  obtain ⟨e0, e1, e2, e3, e4⟩ := ivs_get l j x hx
  have q (i : Nat) (hi : i < N * 5) := World.ownsRow.cellAt h' i hi
  exact ⟨(q _ (by omega)).trans e0, (q _ (by omega)).trans e1, (q _ (by omega)).trans e2, (q _ (by omega)).trans e3, (q _ (by omega)).trans e4⟩
/-- The places that have come when r are left. -/
def downTo (N r : Nat) : List Nat := (List.range (N - r)).map fun j => N - 1 - j
theorem downTo_succ (N r : Nat) (h : r < N) : downTo N r = downTo N (r + 1) ++ [r] := by
  unfold downTo
  rw [show N - r = (N - (r + 1)) + 1 by omega, List.range_succ, List.map_append]
  simp; omega
theorem downTo_self (N : Nat) : downTo N N = [] := by simp [downTo]
/-- What comes of a slice of N: a place, and what stands there. -/
abbrev BI (N : Nat) : Type := { p : Nat × In // p.1 < N }
set_option maxRecDepth 100000 in
set_option maxHeartbeats 4000000 in
theorem back1_in (F : Fence) (n : Nat) (h55 : F.fn 55) (hro : F.round = none) (hn : 1 ≤ n) (l Bs base g N cap : Nat) (hN : N ≤ 1000) (J Jx : List (BI N) → World → Prop)
    (hY : ∀ pre x W, J pre W → pre.length < N → YieldAt F (n - 1) Try.prog l #[.int .i64 (x.1.1 : Int), ia x.1.2] W fun e W' =>
      (e = .returned (.bool true) ∧ J (pre ++ [x]) W' ∧ KpB Bs base g N cap W W') ∨ (e = .returned (.bool false) ∧ Jx (pre ++ [x]) W'))
    (W : World) (hBs : W.heap[Bs]? = some (.cells #[.slice (some ⟨g, 0, none⟩) N cap] 22 (0, 0))) (hR : RowI base g N cap W) (h0 : J [] W) :
    CallsIn F n Try.prog 55 #[.func (.yield l) #[] #[], .pointer (some ⟨Bs, 0, none⟩)] W fun e W' => (∃ v, e = .returned v) ∧
      ((∃ ys, ys.map (·.1.1) = downTo N 0 ∧ J ys W') ∨ (∃ pre, True ∧ Jx pre W')) := by
  have HY := Lib.hid hY
  have HR := Lib.hid hR
  have HB := Lib.hid hBs
  have c0 : W.cell? ⟨Bs, 0, none⟩ = some (.slice (some ⟨g, 0, none⟩) N cap) := by simp [World.cell?, hBs]
  clear hY hR hBs
  refine callsIn_of_wp Try.func55 rfl h55 ?_ hro
  simp only [Try.ntmps55, List.size_toArray, List.length_cons, List.length_nil, Nat.reduceAdd, Nat.reduceSub, Array.replicate_succ, Array.replicate_zero, List.push_toArray, List.append_toArray, List.nil_append, List.cons_append]
  gi_wp2
  gi_loopw [3] (fun s wr => ∃ (r : Nat) (pre : List (BI N)), r ≤ N ∧ s = .int .i64 ((r : Int) - 1) ∧ pre.map (·.1.1) = downTo N r ∧ J pre wr ∧ KpB Bs base g N cap W wr) (fun s _ => ((intOf s) + 1).toNat)
  case atStart => exact ⟨N, [], Nat.le_refl _, rfl, by rw [downTo_self]; rfl, h0, rfl, id⟩
  case round =>
    obtain ⟨r, pre, hr, rfl, hp, hJ, hK⟩ := hrel
    have HP := Lib.hid hp; have HJ := Lib.hid hJ; have HK := Lib.hid hK
    clear hp hJ hK
    cases r with
    | zero =>
      have e : (((0 : Nat) : Int) - 1) = -1 := rfl
      rw [e]
      gi_wp2
      go_end0
      exact ⟨⟨_, rfl⟩, .inl ⟨pre, HP.out, HJ.out⟩⟩
    | succ r =>
      have e : (((r + 1 : Nat) : Int) - 1) = (r : Int) := by omega
      rw [e]
      clear e
      have c1 : wr.cell? ⟨Bs, 0, none⟩ = some (.slice (some ⟨g, 0, none⟩) N cap) := by
        have h1 := HK.out.1.trans HB.out
        simp [World.cell?, h1]
      obtain ⟨li, hli, hO⟩ := HK.out.2 HR.out
      obtain ⟨x, hx⟩ : ∃ x, li[r]? = some x := ⟨_, List.getElem?_eq_getElem (by omega)⟩
      obtain ⟨i0, i1, i2, i3, i4⟩ := own_cellI hli hO r x hx
      have hlen : pre.length < N := by
        have h1 : (pre.map (·.1.1)).length = (downTo N (r + 1)).length := by rw [HP.out]
        simp [downTo] at h1
        omega
      clear hO hli hx
      obtain ⟨fn, tmps, assign, body, hy, hRun⟩ := HY.out pre ⟨(r, x), by dsimp only; omega⟩ wr HJ.out hlen
      dsimp only at hy
      gi_wp2
      refine hRun.mono ?_
      rintro e W3 (⟨rfl, hJ3, hk3⟩ | ⟨rfl, hJx3⟩)
      · have HJ3 := Lib.hid hJ3; have HK3 := Lib.hid hk3
        clear hJ3 hRun hk3
        gi_wp2
        go_roundw
        case rel => exact ⟨r, _, by omega, rfl, by rw [List.map_append, HP.out, downTo_succ N r (by omega)]; rfl, HJ3.out, HK.out.trans HK3.out⟩
        case measure => simp [intOf]
      · have HJ3 := Lib.hid hJx3
        clear hJx3 hRun
        gi_wp2
        refine bodyPost_ret (results_none rfl _ _ _) rfl ?_
        exact ⟨⟨_, rfl⟩, .inr ⟨_, trivial, HJ3.out⟩⟩
theorem Backward_calls (v : Option Addr) (n c : Nat) (w : World) : Calls Try.prog 41 #[.slice v n c] w fun e w' => e = .returned (.func (.func 55) #[] #[.pointer (some ⟨w.heap.size, 0, none⟩)]) ∧ w' = w.alloc (.cells #[.slice v n c] 22) := by
  go_enter Try.func41, Try.ntmps41
  go_wp2
  go_ret
  exact ⟨rfl, rfl⟩
theorem back_stops (Bs base g N cap n : Nat) (hn : 1 ≤ n) (hN : N ≤ 1000) (w : World) (hBs : w.heap[Bs]? = some (.cells #[.slice (some ⟨g, 0, none⟩) N cap] 22 (0, 0))) (hR : RowI base g N cap w) :
    SeqStopsK Fence.wide n Try.prog 55 #[.pointer (some ⟨Bs, 0, none⟩)] (fun x : BI N => #[.int .i64 (x.1.1 : Int), ia x.1.2]) (KpB Bs base g N cap) (fun ys => ys.map (·.1.1) = downTo N 0) (fun _ => True) N w := fun l J Jx W hW _ _ hY h0 => by
  refine back1_in Fence.wide n trivial rfl hn l Bs base g N cap hN J Jx hY W ((hW.block Bs (Array.getElem?_eq_some_iff.1 hBs).1).trans hBs) ?_ h0
  obtain ⟨li, h1, h2⟩ := hR
  exact ⟨li, h1, h2.below hW⟩
end Go.Proofs.Ytcjbdfhofpfooaa.Gm
