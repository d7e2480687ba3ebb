import Derived.Test.YtononmcodecmaaaJKR
import Derived.SizedLaws
import Derived.Test.YtononmcodecmaaaJOP
import Derived.OpenShut
import Derived.WideShapes
import Derived.ProofKit
import Derived.ChangeKeysEq
import Derived.BigFrame
import Derived.Deep.WholeRow
import Derived.Test.YtononmcodecmaaaJLA
import Derived.Test.YtononmcodecmaaaJQx
import Derived.WalkKit
import Derived.KernelRfl
import Derived.Below
import Derived.Outline
import Derived.LoopTactic
import Derived.Laws.BitsLemmas
import Derived.Laws.BitsAllLaws
import Derived.Deep.LoopGhost
import Derived.Lib.Hide
import Derived.Deep.QuietTactic
import Derived.BigQuiet
import Derived.Deep.Draws
import Derived.Laws.StructEq
import Derived.Deep.Slices
import Derived.Deep.Fields
import Derived.ChangeSame
import Derived.Deep.CutBlock
import Derived.Deep.DeepCutAuto
import Derived.Deep.RegionHeld3
import Derived.StillTailTactics
import Derived.WalkSmall
import Derived.OwnWalk
import Derived.Laws.OwnMore
import Derived.Laws.BytesArg
import Derived.Laws.MakeOwn
import Derived.Laws.Tables
import Derived.Laws.Rows
import Derived.Laws.World
/- Layer 4: the machine (part KT). -/
namespace Go.Proofs.Ytononmcodecmaaa.Cp
open Go.RowKit Go.Maps Go.Proofs Go.Proofs.YtononmcodecmaaaW Go.Proofs.YtononmcodecmaaaW.PrintWords
set_option maxRecDepth 100000
set_option linter.unusedVariables false
set_option linter.unusedSimpArgs false
attribute [local go_sem] cv_set cv_at cv_size
structure Wd where
 c : List Int
 A : Int
 B : Int
 S : ByteArray
 T : ByteArray
 an : Option Addr
 ac : Nat
 ans : List Int
 fuel : Int
def wv (z : Wd) : Array Value := (z.c.map (Value.int .u32) ++ [Value.int .u32 z.A, Value.int .u32 z.B, Value.string z.S, Value.string z.T, Value.slice z.an z.ans.length z.ac, Value.int .i64 z.fuel]).toArray
structure WdOk (w : World) (z : Wd) : Prop where
 wc : Wc z.c
 hA : 0 ≤ z.A ∧ z.A < 4294967296
 hB : 0 ≤ z.B ∧ z.B < 4294967296
 hS : z.S.size ≤ maxLen
 hT : z.T.size ≤ maxLen
 ans : AnsAt w z.an z.ans
 rng : ∀ i, 0 ≤ z.ans.getD i 0 ∧ z.ans.getD i 0 < 4294967296
 len : z.ans.length ≤ reachBytes
 fuel : (Lit.int .i64 z.fuel).wf = true
theorem rng32 (z : Int) (hz : (Lit.int .u32 z).wf = true) : 0 ≤ z ∧ z < 4294967296 := by
 simp [Lit.wf, IntKind.min, IntKind.max, IntKind.signed, IntKind.bits] at hz
 omega
section
open Go.ChangeShapes Go.WideShapes
variable {H : Type} {enc : TypeId × Value → H} {W : World}
theorem trod_wd {fuel : Nat} {L : List Value} {x : DataW H × List MemPlace} (h : DataW.trod enc Try.prog W 0 (fun _ => true) true fuel 34 L = some x) (hw : ∀ m ∈ x.1.weights Try.prog 34, m ≤ reachBytes) : ∃ z : Wd, WdOk W z ∧ L = (wv z).toList := by
 obtain ⟨xs, n, _, hx, hlen, hxl, hg⟩ := DataW.trod_struct Try.underlying34 h
 rw [show Try.prog.cellsOf 34 = 39 by kernel_rfl] at hlen
 have g0 : DataW.trod enc Try.prog W 0 (fun _ => true) true n 25 ((L.drop 0).take (Try.prog.cellsOf 25)) = xs[0]? := hg 0 _ rfl
 have g1 : DataW.trod enc Try.prog W 0 (fun _ => true) true n 22 ((L.drop 33).take (Try.prog.cellsOf 22)) = xs[1]? := hg 1 _ rfl
 have g2 : DataW.trod enc Try.prog W 0 (fun _ => true) true n 22 ((L.drop 34).take (Try.prog.cellsOf 22)) = xs[2]? := hg 2 _ rfl
 have g3 : DataW.trod enc Try.prog W 0 (fun _ => true) true n 9 ((L.drop 35).take (Try.prog.cellsOf 9)) = xs[3]? := hg 3 _ rfl
 have g4 : DataW.trod enc Try.prog W 0 (fun _ => true) true n 9 ((L.drop 36).take (Try.prog.cellsOf 9)) = xs[4]? := hg 4 _ rfl
 have g5 : DataW.trod enc Try.prog W 0 (fun _ => true) true n 32 ((L.drop 37).take (Try.prog.cellsOf 32)) = xs[5]? := hg 5 _ rfl
 have g6 : DataW.trod enc Try.prog W 0 (fun _ => true) true n 3 ((L.drop 38).take (Try.prog.cellsOf 3)) = xs[6]? := hg 6 _ rfl
 clear hg
 match xs, hxl with
 | [y0, y1, y2, y3, y4, y5, y6], _ =>
  simp only [show Try.prog.cellsOf 25 = 33 by kernel_rfl, show Try.prog.cellsOf 22 = 1 by kernel_rfl, show Try.prog.cellsOf 9 = 1 by kernel_rfl, show Try.prog.cellsOf 32 = 1 by kernel_rfl, show Try.prog.cellsOf 3 = 1 by kernel_rfl, List.drop_zero, List.getElem?_cons_zero, List.getElem?_cons_succ] at g0 g1 g2 g3 g4 g5 g6
  obtain ⟨c, hc, e0⟩ := trod_cpu g0
  obtain ⟨D, hD⟩ : ∃ D, D = L.drop 33 := ⟨_, rfl⟩
  have hDl : D.length = 6 := by rw [hD, List.length_drop]; omega
  have hL : L = c.map (Value.int .u32) ++ D := by rw [hD, ← e0, List.take_append_drop]
  have d1 : L.drop 34 = D.drop 1 := by rw [hD, List.drop_drop]
  have d2 : L.drop 35 = D.drop 2 := by rw [hD, List.drop_drop]
  have d3 : L.drop 36 = D.drop 3 := by rw [hD, List.drop_drop]
  have d4 : L.drop 37 = D.drop 4 := by rw [hD, List.drop_drop]
  have d5 : L.drop 38 = D.drop 5 := by rw [hD, List.drop_drop]
  rw [← hD] at g1
  rw [d1] at g2
  rw [d2] at g3
  rw [d3] at g4
  rw [d4] at g5
  rw [d5] at g6
  clear hD d1 d2 d3 d4 d5 e0 hlen h
  match D, hDl with
  | [x1, x2, x3, x4, x5, x6], _ =>
   simp only [List.drop_succ_cons, List.drop_zero, List.take_succ_cons, List.take_zero] at g1 g2 g3 g4 g5 g6
   obtain ⟨A, e1, _, w1⟩ := DataW.trod_int Try.underlying22 g1
   obtain ⟨B, e2, _, w2⟩ := DataW.trod_int Try.underlying22 g2
   obtain ⟨S, e3, _, w3⟩ := DataW.trod_string Try.underlying9 g3
   obtain ⟨T, e4, _, w4⟩ := DataW.trod_string Try.underlying9 g4
   obtain ⟨an, ac, ans, e5, b5, m5, C5, r5⟩ := Op.open_row (d := (Kd.int .u32)) Try.underlying32 (by kernel_rfl) (Op.opens_int Try.underlying22) g5
   obtain ⟨F, e6, _, w6⟩ := DataW.trod_int Try.underlying3 g6
   obtain rfl := (List.cons.inj e1).1
   obtain rfl := (List.cons.inj e2).1
   obtain rfl := (List.cons.inj e3).1
   obtain rfl := (List.cons.inj e4).1
   obtain rfl := (List.cons.inj e6).1
   have hlen5 : ans.length ≤ reachBytes := by
    rcases Go.Deep.open_slice Try.underlying32 g5 with ⟨q1, _⟩ | ⟨a, len, cp, m, n, D, Pl, q1, _, _, _, _, q2, _⟩
    ·rw [e5] at q1
     have := (List.cons.inj q1).1
     injection this with _ q3 _
     omega
    ·rw [e5] at q1
     have := (List.cons.inj q1).1
     injection this with _ q3 _
     have hb := hw ((((List.range len).map D).length + ((List.range (m - len)).map fun j => D (len + j)).length) * Try.prog.bytesOf 22) (by
      rw [hx]
      simp only [DataW.weights, Try.underlying34]
      refine DataW.weights_mem_each (j := 5) (t := 32) (d := y5.1) rfl rfl _ ?_
      rw [q2]
      simp [DataW.weights, Try.underlying32])
     rw [show Try.prog.bytesOf 22 = 4 by kernel_rfl, List.length_map, List.length_range] at hb
     omega
   subst e5
   refine ⟨⟨c, A, B, S, T, an, ac, ans, F⟩, ⟨hc, rng32 A w1, rng32 B w2, w3, w4, ?_, ?_, hlen5, w6⟩, by rw [hL]; rfl⟩
   ·intro i hi
    obtain ⟨ad, e, hcell⟩ := Kd.at_int C5 (i : Int) (by omega) (by exact_mod_cast hi)
    refine ⟨ad, e, ?_, ?_⟩
    ·have := World.block_lt_of_cell? W _ hcell
     rwa [add_block] at this
    ·rw [Int.toNat_natCast] at hcell
     exact hcell
   ·intro i
    by_cases hi : i < ans.length
    ·have := rng32 _ (r5 _ (List.getElem_mem hi))
     rw [List.getD_eq_getElem?_getD, List.getElem?_eq_getElem hi]
     exact this
    ·rw [List.getD_eq_getElem?_getD, List.getElem?_eq_none (Nat.le_of_not_lt hi)]
     simp
end
end Go.Proofs.Ytononmcodecmaaa.Cp
