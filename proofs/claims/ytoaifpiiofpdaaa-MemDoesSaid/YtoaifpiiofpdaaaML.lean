import Derived.Test.YtoaifpiiofpdaaaMK
import Derived.WalkKit
import Derived.KernelRfl
import Derived.Below
import Derived.Outline
import Derived.LoopTactic
import Derived.Maps.Own
import Derived.Maps.OwnOps
import Derived.Maps.OwnSet
import Derived.Maps.Views
import Derived.Maps.AppendAt
import Derived.Laws.BitsLemmas
import Derived.Laws.BitsAllLaws
import Derived.Deep.LoopGhost
import Derived.Lib.Hide
import Derived.Deep.QuietTactic
import Derived.BigQuiet
import Derived.Deep.Draws
import Derived.Laws.StructEq
import Derived.Deep.Slices
import Derived.Deep.Fields
import Derived.ChangeSame
import Derived.Deep.CutBlock
import Derived.Deep.DeepCutAuto
import Derived.Deep.RegionHeld3
import Derived.StillTailTactics
import Derived.WalkSmall
import Derived.RangeFuncBox
import Derived.OwnWalk
import Derived.Laws.OwnMore
import Derived.Laws.BytesArg
import Derived.Laws.MakeOwn
namespace Go.Proofs.Ytoaifpiiofpdaaa.Mm
open Go.RowKit Go.Maps Go.Proofs
set_option linter.unusedVariables false
set_option linter.unusedSimpArgs false
/-! ### A script, opened -/
open Go.ChangeShapes Go.WideShapes Go.Deep in
theorem open_op {H : Type} {enc : TypeId × Value → H} {W : World} {n : Nat} {cs : List Value} {y : DataW H × List MemPlace}
    (h : DataW.trod enc Try.prog W 0 (fun _ => true) true n 40 cs = some y) :
    ∃ o : OpV, cs = [.int .i64 o.kind, .int .i64 o.n, .int .u32 (o.addr : Int), .int .u32 (o.v : Int), .string o.s] ∧ (-9223372036854775808 ≤ o.n ∧ o.n ≤ 9223372036854775807) ∧ o.addr < 4294967296 ∧ o.v < 4294967296 ∧ o.s.size ≤ maxLen := by
  obtain ⟨xs, m, _, hx, hlen, hxl, hg⟩ := DataW.trod_struct Try.underlying40 h
  rw [show Try.prog.cellsOf 40 = 5 by kernel_rfl] at hlen
  match cs, hlen with
  | [c0, c1, c2, c3, c4], _ =>
  match xs, hxl with
  | [y0, y1, y2, y3, y4], _ =>
    have g0 : DataW.trod enc Try.prog W 0 (fun _ => true) true m 3 [c0] = some y0 := by simpa [show Try.prog.cellsOf 3 = 1 by kernel_rfl] using hg 0 _ rfl
    have g1 : DataW.trod enc Try.prog W 0 (fun _ => true) true m 3 [c1] = some y1 := by simpa [show Try.prog.cellsOf 3 = 1 by kernel_rfl] using hg 1 _ rfl
    have g2 : DataW.trod enc Try.prog W 0 (fun _ => true) true m 22 [c2] = some y2 := by simpa [show Try.prog.cellsOf 22 = 1 by kernel_rfl] using hg 2 _ rfl
    have g3 : DataW.trod enc Try.prog W 0 (fun _ => true) true m 22 [c3] = some y3 := by simpa [show Try.prog.cellsOf 22 = 1 by kernel_rfl] using hg 3 _ rfl
    have g4 : DataW.trod enc Try.prog W 0 (fun _ => true) true m 9 [c4] = some y4 := by simpa [show Try.prog.cellsOf 9 = 1 by kernel_rfl] using hg 4 _ rfl
    clear hg
    obtain ⟨n0, e0, _, _⟩ := DataW.trod_int Try.underlying3 g0
    obtain ⟨n1, e1, _, w1⟩ := DataW.trod_int Try.underlying3 g1
    obtain ⟨n2, e2, _, w2⟩ := DataW.trod_int Try.underlying22 g2
    obtain ⟨n3, e3, _, w3⟩ := DataW.trod_int Try.underlying22 g3
    obtain ⟨s, e4, _, w4⟩ := DataW.trod_string Try.underlying9 g4
    obtain ⟨a2, l2, rfl⟩ := nat_of_wf w2
    obtain ⟨a3, l3, rfl⟩ := nat_of_wf w3
    simp at e0 e1 e2 e3 e4
    subst e0 e1 e2 e3 e4
    simp [Lit.wf, IntKind.min, IntKind.max, IntKind.signed, IntKind.bits] at w1
    exact ⟨⟨n0, n1, a2, a3, s⟩, rfl, ⟨w1.1, w1.2⟩, l2, l3, w4⟩
instance : Inhabited OpV := ⟨⟨0, 0, 0, 0, ByteArray.empty⟩⟩
open Go.ChangeShapes Go.WideShapes Go.Deep in
theorem open_script {H : Type} {enc : TypeId × Value → H} {W : World} {oa : Option Addr} {L cap : Nat} {d : DataW H} {p : List MemPlace}
    (h : DataW.Trod enc Try.prog W 0 (fun _ => true) true 38 (.slice oa L cap) d p) : L ≤ maxLen ∧ ∃ O, Script W oa L O := by
  obtain ⟨fuel, hf⟩ := h
  rcases Go.Deep.open_slice Try.underlying38 hf with ⟨hcs, _⟩ | ⟨a, len, cp, m, n, D, Pl, hcs, hb, hl, hm, hmm, hx, hi⟩
  · simp [Value.cells] at hcs
    obtain ⟨rfl, rfl, rfl⟩ := hcs
    exact ⟨Nat.zero_le _, fun _ => default, fun i hi => by cases hi⟩
  · simp [Value.cells] at hcs
    obtain ⟨rfl, rfl, rfl⟩ := hcs
    rw [show Try.prog.cellsOf 40 = 5 by kernel_rfl] at hi
    simp only [if_true] at hmm
    subst hmm
    refine ⟨Nat.le_trans hl hm, ?_⟩
    have key : ∀ i, i < L → ∃ o : OpV, a.spot = none → (a.block < W.heap.size ∧ OpAt W a.block a.off i o) := by
      intro i hil
      obtain ⟨cs, hc, ht⟩ := hi i (Nat.lt_of_lt_of_le hil hl)
      obtain ⟨o, rfl, h1, h2, h3, h4⟩ := open_op ht
      obtain ⟨_, _, hat⟩ := World.cells?_some hc
      refine ⟨o, fun hs => ?_⟩
      have ad (k : Nat) : (a.add (i * 5)).add k = ⟨a.block, a.off + i * 5 + k, none⟩ := by
        obtain ⟨b, x, sp⟩ := a
        simp only at hs
        subst hs
        unfold Addr.add
        split <;> split <;> simp_all
      have q0 := hat 0 (by omega)
      have q1 := hat 1 (by omega)
      have q2 := hat 2 (by omega)
      have q3 := hat 3 (by omega)
      have q4 := hat 4 (by omega)
      rw [ad] at q0 q1 q2 q3 q4
      refine ⟨(World.block_lt_of_cell? W ⟨a.block, a.off + i * 5 + 0, none⟩ q0 : a.block < W.heap.size), q0, q1, q2, q3, q4, h1, h2, h3, ?_⟩
      unfold maxLen at h4
      omega
    obtain ⟨O, hO⟩ := Go.Deep.choose_lt key
    refine ⟨O, fun i hil => ?_⟩
    have hsp : a.spot = none := by
      obtain ⟨cs, hc, ht⟩ := hi 0 (by omega)
      obtain ⟨o, rfl, _⟩ := open_op ht
      obtain ⟨_, _, hat⟩ := World.cells?_some hc
      have q0 := hat 0 (by omega)
      have : (a.add (0 * 5)).add 0 = a := by simp [Addr.add]
      rw [this] at q0
      unfold World.cell? at q0
      cases hs : a.spot with
      | none => rfl
      | some s => rw [hs] at q0; split at q0 <;> simp at q0
    obtain ⟨h1, h2⟩ := hO i hil hsp
    obtain ⟨b, x, sp⟩ := a
    simp only at hsp
    subst hsp
    exact ⟨b, x, rfl, h1, h2⟩
end Go.Proofs.Ytoaifpiiofpdaaa.Mm
