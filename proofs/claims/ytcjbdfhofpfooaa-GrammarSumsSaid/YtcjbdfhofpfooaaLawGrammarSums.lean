/- GrammarSums: for every input that can be read the law returns true, and each argument reads as it did (no condition of ours). -/
import Derived.Test.YtcjbdfhofpfooaaRows
import Derived.Test.YtcjbdfhofpfooaaPA
import Derived.Test.YtcjbdfhofpfooaaOP
import Derived.WalkKit
import Derived.ProofKit
import Derived.OpenShut
import Derived.ShutString
import Derived.ChangeOld
import Derived.Below
import Derived.SizedLaws
import Derived.Lib.SmallJoins
import Derived.Deep.Fields
import Derived.Deep.Slices
namespace Go.Proofs.Ytcjbdfhofpfooaa.grammarSums
open Go.ChangeShapes Go.WideShapes Go.ChangeAt Go.RowKit Go.Joins Go.Deep
open Go.ChangeMaps (open_string shut_string)
open Go.Proofs.YtcjbdfhofpfooaaW.PrintWords
set_option linter.unusedVariables false
theorem own : ownKnob Try.prog.godebug = none := by kernel_rfl
theorem laidOut : laidOutB Try.prog = true := by kernel_rfl
theorem opens_st25 : Op.Opens Try.prog Q.k25 25 (fun x => ((Lit.int .i64 x.f0).wf = true) ∧ ((Lit.int .i64 x.f1).wf = true) ∧ ((Lit.int .i64 x.f2).wf = true) ∧ ((Lit.int .i64 x.f3).wf = true) ∧ ((Lit.int .i64 x.f4).wf = true)) := by
  intro H enc W n cs y h
  obtain ⟨xs, m, _, hx, hlen, hxl, hg⟩ := DataW.trod_struct Try.underlying25 h
  rw [show Try.prog.cellsOf 25 = 5 by kernel_rfl] at hlen
  match cs, hlen with
  | [c0, c1, c2, c3, c4], _ =>
  match xs, hxl with
  | [y0, y1, y2, y3, y4], _ =>
    have g0 : DataW.trod enc Try.prog W 0 (fun _ => true) true m 3 [c0] = some y0 := by simpa [show Try.prog.cellsOf 3 = 1 by kernel_rfl] using hg 0 _ rfl
    have g1 : DataW.trod enc Try.prog W 0 (fun _ => true) true m 3 [c1] = some y1 := by simpa [show Try.prog.cellsOf 3 = 1 by kernel_rfl] using hg 1 _ rfl
    have g2 : DataW.trod enc Try.prog W 0 (fun _ => true) true m 3 [c2] = some y2 := by simpa [show Try.prog.cellsOf 3 = 1 by kernel_rfl] using hg 2 _ rfl
    have g3 : DataW.trod enc Try.prog W 0 (fun _ => true) true m 3 [c3] = some y3 := by simpa [show Try.prog.cellsOf 3 = 1 by kernel_rfl] using hg 3 _ rfl
    have g4 : DataW.trod enc Try.prog W 0 (fun _ => true) true m 3 [c4] = some y4 := by simpa [show Try.prog.cellsOf 3 = 1 by kernel_rfl] using hg 4 _ rfl
    clear hg
    obtain ⟨x0, k0, p0⟩ := (Op.opens_int Try.underlying3) enc W m _ _ g0
    obtain ⟨x1, k1, p1⟩ := (Op.opens_int Try.underlying3) enc W m _ _ g1
    obtain ⟨x2, k2, p2⟩ := (Op.opens_int Try.underlying3) enc W m _ _ g2
    obtain ⟨x3, k3, p3⟩ := (Op.opens_int Try.underlying3) enc W m _ _ g3
    obtain ⟨x4, k4, p4⟩ := (Op.opens_int Try.underlying3) enc W m _ _ g4
    exact ⟨⟨x0, x1, x2, x3, x4⟩, ⟨[c0], [c1, c2, c3, c4], rfl, k0, ⟨[c1], [c2, c3, c4], rfl, k1, ⟨[c2], [c3, c4], rfl, k2, ⟨[c3], [c4], rfl, k3, k4⟩⟩⟩⟩, p0, p1, p2, p3, p4⟩
set_option maxRecDepth 100000 in
theorem lifted (os : Os) (started : os.Started) (H : Type) (enc : TypeId × Value → H) :
    ReturnsInHanded {} Try.checked os 10 .any (Rows.grammarSumsSpec.pre6 enc Try.prog Try.f10 Rows.grammarSumsRow.domain false) (Rows.grammarSumsSpec.post enc Try.prog Try.f10 false true false false) := by
  refine returnsInHanded_of_change_sized (C := Try.checked) own started (by kernel_rfl) Try.func10
    (ChangeSpec.witness6 (enc := enc) (C := Try.checked) false ⟨#[], #[.slice none 0 0, .slice none 0 0], []⟩ 8 (by kernel_rfl) (by kernel_rfl) (by kernel_rfl) (by kernel_rfl)) ?_
  intro W base args ds gs before hval0 hW hcnd hsz0 _
  have hsz : (DataW.weightsEach Try.prog (Try.f10.params.toList ++ Rows.grammarSumsSpec.plain.varTypes Try.prog) (ds ++ gs)).all (· ≤ reachBytes) = true := hsz0
  have hval : ∀ (j : Nat) t v, Try.f10.params[j]? = some t → args[j]? = some v → Value.okWide Try.prog W .any base t v := hval0
  have hW' := hW
  obtain ⟨p, q, hA0, hV, rfl, hfz, hnd⟩ := hW
  have hA : DataW.TrodAll enc Try.prog W 0 (fun _ => true) true Try.f10.params.toList args.toList ds p := hA0
  rw [Try.params10] at hA hval hsz
  obtain ⟨v0, vs0, d0, ds0, p0, q0, hargs, rfl, rfl, h0, r0⟩ := trodAll_cons hA
  obtain ⟨v1, vs1, d1, ds1, p1, q1, rfl, rfl, rfl, h1, r1⟩ := trodAll_cons r0
  obtain ⟨rfl, rfl, rfl⟩ := trodAll_nil r1
  obtain rfl : args = #[v0, v1] := by cases args; simp_all
  obtain ⟨rfl, rfl⟩ := trodVars_none hV
  obtain ⟨o0, len0, cap0, rfl⟩ := okWide_slice Try.underlying22 (hval 0 22 v0 rfl rfl)
  have k0 := h0
  have lt0 : ∀ x ∈ p0, x.block < W.heap.size := by obtain ⟨m, hm⟩ := k0; exact DataW.trod_lt m _ _ _ hm
  obtain ⟨n0, hn0⟩ := h0
  obtain ⟨A0, c0c, l0, e0, b0, m0m, C0, w0⟩ := Op.open_row (d := Q.k25) Try.underlying22 (by kernel_rfl) opens_st25 (by simpa [Value.cells] using hn0)
  cases e0
  obtain ⟨o1, len1, cap1, rfl⟩ := okWide_slice Try.underlying22 (hval 1 22 v1 rfl rfl)
  have k1 := h1
  have lt1 : ∀ x ∈ p1, x.block < W.heap.size := by obtain ⟨m, hm⟩ := k1; exact DataW.trod_lt m _ _ _ hm
  obtain ⟨n1, hn1⟩ := h1
  obtain ⟨A1, c1c, l1, e1, b1, m1m, C1, w1⟩ := Op.open_row (d := Q.k25) Try.underlying22 (by kernel_rfl) opens_st25 (by simpa [Value.cells] using hn1)
  cases e1
  clear hA0 hval0 hsz0 hsz
  refine (Q.walk_GrammarSums o0 cap0 l0 o1 cap1 l1 W C0 b0 m0m w0 C1 b1 m1m w1).mono fun e W' ⟨he, bel⟩ => ?_
  subst he
  exact ⟨_, rfl, _, _, _, [], _, [], hW', trodAll_mk1 (shut_bool Try.underlying4 _), (trodAll_cons_mk (Below.trod laidOut (by kernel_rfl) (of_decide_eq_true (by kernel_rfl)) k0 bel lt0) (trodAll_cons_mk (Below.trod laidOut (by kernel_rfl) (of_decide_eq_true (by kernel_rfl)) k1 bel lt1) trodAll_mk0)), rfl, bel.frame _, fun h => by cases h⟩
theorem over : Rows.grammarSumsRow.holds Try.pinned (OpenSpec.ofChange Rows.grammarSumsSpec) :=
  OpenClaim.holds_of_wide 10 Try.f10 rfl rfl rfl rfl rfl rfl rfl ⟨rfl, rfl, rfl, rfl, rfl⟩ rfl rfl rfl rfl rfl (by kernel_rfl) Try.func10 (by kernel_rfl)
    (of_decide_eq_true (by kernel_rfl)) (by unfold Func.isWrapper; first | (rw [if_pos (by decide +kernel)]; kernel_rfl) | (rw [if_neg (by decide +kernel)]; exact ⟨rfl, rfl⟩))
    (fun os started H enc _ => lifted os started H enc)
theorem proved : Rows.GrammarSumsSaid := over
#print axioms proved
end Go.Proofs.Ytcjbdfhofpfooaa.grammarSums
namespace Go.Proofs.Ytcjbdfhofpfooaa
/-- The row, under a short name, for the claim. -/
theorem grammarSums_holds : Rows.GrammarSumsSaid := grammarSums.proved
end Go.Proofs.Ytcjbdfhofpfooaa
