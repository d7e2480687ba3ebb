import Derived.Test.YtononmcodecmaaaProg
import Derived.WalkKit
import Derived.KernelRfl
import Derived.Below
import Derived.Outline
import Derived.LoopTactic
import Derived.Laws.BitsLemmas
import Derived.Laws.BitsAllLaws
import Derived.Deep.LoopGhost
import Derived.Lib.Hide
import Derived.Deep.QuietTactic
import Derived.BigQuiet
import Derived.Deep.Draws
import Derived.Laws.StructEq
import Derived.Deep.Slices
import Derived.Deep.Fields
import Derived.ChangeSame
import Derived.Deep.CutBlock
import Derived.Deep.DeepCutAuto
import Derived.Deep.RegionHeld3
import Derived.StillTailTactics
import Derived.WalkSmall
import Derived.OwnWalk
import Derived.Laws.OwnMore
import Derived.Laws.BytesArg
import Derived.Laws.MakeOwn
import Derived.Laws.Tables
import Derived.Laws.Rows
import Derived.Laws.World
/- Layer 4: the machine (part KA). -/
namespace Go.Proofs.Ytononmcodecmaaa.Cp
open Go.RowKit Go.Maps Go.Proofs
set_option linter.unusedVariables false
set_option linter.unusedSimpArgs false
def cv (c : List Int) : Array Value := (c.map (Value.int .u32)).toArray
def reg (c : List Int) (i : Nat) : Int := c.getD i 0
theorem reg_set_ne (c : List Int) (i j : Nat) (v : Int) (h : i ≠ j) : reg (c.set i v) j = reg c j := by simp [reg, List.getD_eq_getElem?_getD, List.getElem?_set, h]
theorem reg_set_eq (c : List Int) (i : Nat) (v : Int) (h : i < c.length) : reg (c.set i v) i = v := by simp [reg, List.getD_eq_getElem?_getD, List.getElem?_set, h]
theorem cv_size (c : List Int) : (cv c).size = c.length := by simp [cv]
theorem cv_one (c : List Int) : (cv c).all (·.oneCell') = true := by
 rw [Array.all_eq_true_iff_forall_mem]
 intro v hv
 simp only [cv, List.mem_toArray, List.mem_map] at hv
 obtain ⟨x, _, rfl⟩ := hv
 rfl
theorem cv_set (c : List Int) (i : Nat) (v : Int) : (cv c).setIfInBounds i (.int .u32 v) = cv (c.set i v) := by
 simp only [cv, List.setIfInBounds_toArray, List.map_set]
theorem cv_get (c : List Int) (i : Nat) (h : i < c.length) : (cv c)[i]? = some (.int .u32 (reg c i)) := by
 simp [cv, reg, List.getElem?_eq_getElem h, List.getD_eq_getElem?_getD]
theorem cv_at (c : List Int) (i : Nat) (h : i < (cv c).size) : (cv c)[i] = .int .u32 (reg c i) := by
 have h2 : i < c.length := by rw [cv_size] at h; exact h
 have := cv_get c i h2
 rw [Array.getElem?_eq_getElem h] at this
 injection this
attribute [local go_sem] cv_set cv_at cv_size
theorem infoC : (Try.prog.info? 25).map (·.size) = some 33 := by kernel_rfl
theorem ldC {ops : Array Oper} {rest : List Oper} {o : Oper} {a : Act} {w : World} {Q : Exit → Act → World → Prop} (hgd : o.guard = none) (x : Operand) (ho : o.op = .load 25 x)
  (g : Nat) (hx : a.eval x = .pointer (some ⟨g, 0, none⟩)) (c : List Int) (fr : Nat × Nat) (hg : w.heap[g]? = some (.cells (cv c) 25 fr)) (hc : c.length = 33)
  (h : wpList Try.prog ops Q rest (a.put o.dst (.agg (cv c))) w) : wpList Try.prog ops Q (o :: rest) a w :=
 wpList_load_row hgd _ x ho g hx _ _ fr _ hg Try.underlying25 rfl (infoC.trans (by rw [cv_size, hc])) h
theorem stC {ops : Array Oper} {rest : List Oper} {o : Oper} {a : Act} {w : World} {Q : Exit → Act → World → Prop} (hgd : o.guard = none) (x y : Operand) (ho : o.op = .store 25 x y)
  (g : Nat) (c : List Int) (hx : a.eval x = .pointer (some ⟨g, 0, none⟩)) (hy : a.eval y = .agg (cv c)) (old : List Int) (hg : w.heap[g]? = some (.cells (cv old) 25 (0, 0)))
  (hc : c.length = 33) (ho2 : old.length = 33) (h : wpList Try.prog ops Q rest (a.put o.dst undef) (w.setRow g (cv c))) : wpList Try.prog ops Q (o :: rest) a w :=
 wpList_store_row hgd _ x y ho g _ hx hy _ _ hg (infoC.trans (by rw [cv_size, hc])) (by rw [cv_size, cv_size, hc, ho2]) (cv_one c) h
def zs : List Int := List.replicate 33 0
theorem zs_len : zs.length = 33 := rfl
theorem zeroC : (Try.prog.info? 25).map (fun i => (i.zero, i.size, i.bytes)) = some (some (.agg (cv zs)), 33, 132) := by kernel_rfl
theorem alC {ops : Array Oper} {rest : List Oper} {o : Oper} {a : Act} {w : World} {Q : Exit → Act → World → Prop} (hgd : o.guard = none) (ho : o.op = .alloc 25)
  (h : wpList Try.prog ops Q rest (a.put o.dst (.pointer (some ⟨w.heap.size, 0, none⟩))) (w.alloc (.cells (cv zs) 25))) : wpList Try.prog ops Q (o :: rest) a w := by
 refine wpList_plain hgd fun K hK => ?_
 have hz : ∀ w, (zeroValue 25).run Try.prog w = .ok (.agg (cv zs)) w := by
  intro w
  have h0 := zeroC
  cases hq : Try.prog.info? 25 with
  | none => simp [hq] at h0
  | some i => simp [hq] at h0; simp [zeroValue, typeInfo, hq, h0.1]
 have := hK _ _ h
 unfold Oper.wp execOp
 simp only [ho]
 go_simp
 exact this
theorem loadC (w : World) (g : Nat) (c : List Int) (fr : Nat × Nat) (hg : w.heap[g]? = some (.cells (cv c) 25 fr)) (hc : c.length = 33) : (loadVar 25 ⟨g, 0, none⟩).run Try.prog w = .ok (.agg (cv c)) w :=
 run_loadVar_row _ _ _ _ _ _ _ hg Try.underlying25 rfl (infoC.trans (by rw [cv_size, hc]))
theorem retC {fn : Func} {R : Ending → World → Prop} {a : Act} {w : World} {p : Tmp} {g : Nat} {c : List Int} {fr : Nat × Nat} (h : fn.results = #[.cell p 25])
  (hp : a.tmps.getD p undef = .pointer (some ⟨g, 0, none⟩)) (hg : w.heap[g]? = some (.cells (cv c) 25 fr)) (hc : c.length = 33) (hd : a.defers = []) (hR : R (.returned (.agg (cv c))) w) : bodyPost Try.prog fn R .ret a w := by
 refine bodyPost_ret ?_ hd hR
 have hp' : a.tmps[p]?.getD undef = .pointer (some ⟨g, 0, none⟩) := by simpa using hp
 simp [results, h, hp', asAddr, loadC w g c fr hg hc]
theorem retC2 {fn : Func} {R : Ending → World → Prop} {a : Act} {w : World} {p q : Tmp} {g : Nat} {c : List Int} {fr : Nat × Nat} {v : Value} (h : fn.results = #[.cell p 25, .tmp q])
  (hp : a.tmps.getD p undef = .pointer (some ⟨g, 0, none⟩)) (hg : w.heap[g]? = some (.cells (cv c) 25 fr)) (hc : c.length = 33) (hv : a.tmps.getD q undef = v) (hd : a.defers = []) (hR : R (.returned (.tuple #[.agg (cv c), v])) w) : bodyPost Try.prog fn R .ret a w := by
 refine bodyPost_ret ?_ hd hR
 have hp' : a.tmps[p]?.getD undef = .pointer (some ⟨g, 0, none⟩) := by simpa using hp
 have hv' : a.tmps[q]?.getD undef = v := by simpa using hv
 simp [results, h, hp', hv', asAddr, loadC w g c fr hg hc]
theorem heap3_0 (w : World) (A B C : Obj) : (((w.alloc A).alloc B).alloc C).heap[w.heap.size]? = some A := by
 rw [Below.heap_alloc _ _ _ (by simp; omega)]; exact heap_alloc2_old _ _ _
theorem heap3_1 (w : World) (A B C : Obj) : (((w.alloc A).alloc B).alloc C).heap[w.heap.size + 1]? = some B := by
 rw [Below.heap_alloc _ _ _ (by simp)]; exact heap_alloc2_new _ _ _
theorem heap3_2 (w : World) (A B C : Obj) : (((w.alloc A).alloc B).alloc C).heap[w.heap.size + 2]? = some C := by
 have := heap_alloc_new ((w.alloc A).alloc B) C
 simpa using this
theorem below_setRow {B : Nat} {a w : World} (h : Below B a w) {g : Nat} (hg : B ≤ g) (cs : Array Value) : Below B a (w.setRow g cs) :=
 h.trans ⟨rfl, rfl, rfl, by simp [World.setRow], fun k hk => setRow_other _ _ _ _ (by omega)⟩
theorem set_calls (c : List Int) (hc : c.length = 33) (rd : Nat) (hr : rd < 32) (v : Int) (w : World) : Calls Try.prog 23 #[.agg (cv c), .int .i64 rd, .int .u32 v] w fun e w' => e = .returned (.agg (cv (if rd = 0 then c else c.set rd v))) ∧ Below w.heap.size w w' := by
 have hb : Below w.heap.size w ((w.alloc (.cells (cv (if rd = 0 then c else c.set rd v)) 25)).alloc (.cells (cv zs) 25)) := ((Below.refl _ w).alloc (Nat.le_refl _) _).alloc (by simp) _
 have HB := Lib.hid hb
 clear hb
 by_cases h0 : rd = 0
 ·subst h0
  rw [if_pos rfl] at HB ⊢
  go_enter Try.func23, Try.ntmps23
  go_wp2_with (first | refine alC rfl rfl ?_ | refine ldC rfl _ rfl _ rfl _ (0, 0) (heap_alloc2_old _ _ _) hc ?_ | refine stC rfl _ _ rfl _ _ rfl rfl zs (heap_alloc2_new _ _ _) hc rfl ?_)
  refine retC rfl rfl (setRow_heap _ _ _ _ _ _ (heap_alloc2_new _ _ _)) hc rfl ⟨rfl, ?_⟩
  exact below_setRow HB.out (by simp) _
 ·have hn : ((rd : Int) != 0) = true := bne_iff_ne.mpr (by omega)
  rw [if_neg h0] at HB ⊢
  go_enter Try.func23, Try.ntmps23
  have hl : (c.set rd v).length = 33 := by rw [List.length_set, hc]
  go_wp2_with (first | refine alC rfl rfl ?_ | refine ldC rfl _ rfl _ rfl _ (0, 0) (heap_alloc2_old _ _ _) hl ?_ | refine stC rfl _ _ rfl _ _ rfl rfl zs (heap_alloc2_new _ _ _) hl rfl ?_)
  refine retC rfl rfl (setRow_heap _ _ _ _ _ _ (heap_alloc2_new _ _ _)) hl rfl ⟨rfl, ?_⟩
  exact below_setRow HB.out (by simp) _
def rset (c : List Int) (rd : Nat) (v : Int) : List Int := (if rd = 0 then c else c.set rd v).set 32 ((reg c 32 + 4) % 4294967296)
theorem rset_len (c : List Int) (rd : Nat) (v : Int) : (rset c rd v).length = c.length := by unfold rset; split <;> simp
theorem rset_calls (c : List Int) (hc : c.length = 33) (rd : Nat) (hr : rd < 32) (v : Int) (w : World) : Calls Try.prog 25 #[.agg (cv c), .int .i64 rd, .int .u32 v] w fun e w' => e = .returned (.agg (cv (rset c rd v))) ∧ Below w.heap.size w w' := by
 have hb : Below w.heap.size w ((w.alloc (.cells (cv (rset c rd v)) 25)).alloc (.cells (cv zs) 25)) := ((Below.refl _ w).alloc (Nat.le_refl _) _).alloc (by simp) _
 have HB := Lib.hid hb
 clear hb
 have hl := (rset_len c rd v).trans hc
 unfold rset at hl HB ⊢
 by_cases h0 : rd = 0
 ·subst h0
  rw [if_pos rfl] at hl HB ⊢
  go_enter Try.func25, Try.ntmps25
  go_wp2_with (first | refine alC rfl rfl ?_ | refine ldC rfl _ rfl _ rfl _ (0, 0) (heap_alloc2_old _ _ _) hl ?_ | refine stC rfl _ _ rfl _ _ rfl rfl zs (heap_alloc2_new _ _ _) hl rfl ?_)
  refine retC rfl rfl (setRow_heap _ _ _ _ _ _ (heap_alloc2_new _ _ _)) hl rfl ⟨rfl, ?_⟩
  exact below_setRow HB.out (by simp) _
 ·have hn : ((rd : Int) > 0) := by omega
  have hz : ¬ rd = 32 := by omega
  rw [if_neg h0] at hl HB ⊢
  have hg2 : reg (c.set rd v) 32 = reg c 32 := reg_set_ne _ _ _ _ hz
  go_enter Try.func25, Try.ntmps25
  go_wp2_with (first | refine alC rfl rfl ?_ | refine ldC rfl _ rfl _ rfl _ (0, 0) (heap_alloc2_old _ _ _) hl ?_ | refine stC rfl _ _ rfl _ _ rfl rfl zs (heap_alloc2_new _ _ _) hl rfl ?_)
  refine retC rfl rfl (setRow_heap _ _ _ _ _ _ (heap_alloc2_new _ _ _)) hl rfl ⟨rfl, ?_⟩
  exact below_setRow HB.out (by simp) _
end Go.Proofs.Ytononmcodecmaaa.Cp
