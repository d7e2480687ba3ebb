import Derived.Test.YtekenddkoahjgaaHBE
import Derived.WalkKit
import Derived.KernelRfl
import Derived.Below
import Derived.Outline
import Derived.LoopTactic
import Derived.Maps.Own
import Derived.Maps.OwnOps
import Derived.Maps.OwnSet
import Derived.Maps.Views
import Derived.Maps.AppendAt
import Derived.Laws.BitsLemmas
import Derived.Laws.BitsAllLaws
import Derived.Deep.LoopGhost
import Derived.Lib.Hide
import Derived.Deep.QuietTactic
import Derived.BigQuiet
import Derived.Deep.Draws
import Derived.Laws.StructEq
import Derived.Deep.Slices
import Derived.Deep.Fields
import Derived.ChangeSame
import Derived.Deep.CutBlock
import Derived.Deep.DeepCutAuto
import Derived.Deep.RegionHeld3
import Derived.StillTailTactics
import Derived.WalkSmall
import Derived.OwnWalk
import Derived.Laws.OwnMore
import Derived.Laws.BytesArg
import Derived.Laws.MakeOwn
import Derived.Laws.Tables
import Derived.Laws.Rows
import Derived.Laws.World
import Derived.Lib.SliceRun
/- Layer 8, walked: whetstonelaw08.Text. -/
namespace Go.Proofs.Ytekenddkoahjgaa.Bl
open Go.RowKit Go.Maps Go.Proofs
set_option maxRecDepth 100000
set_option linter.unusedVariables false
set_option linter.unusedSimpArgs false
theorem infoI : (Try.prog.info? 32).map (·.size) = some 4 := by kernel_rfl
theorem retI {fn : Func} {R : Ending → World → Prop} {a : Act} {w : World} {p : Tmp} {g : Nat} {c : Array Value} {fr : Nat × Nat} (h : fn.results = #[.cell p 32])
  (hp : a.tmps.getD p undef = .pointer (some ⟨g, 0, none⟩)) (hg : w.heap[g]? = some (.cells c 32 fr)) (hc : c.size = 4) (hd : a.defers = []) (hR : R (.returned (.agg c)) w) : bodyPost Try.prog fn R .ret a w := by
 refine bodyPost_ret ?_ hd hR
 have hp' : a.tmps[p]?.getD undef = .pointer (some ⟨g, 0, none⟩) := by simpa using hp
 have hl : (loadVar 32 ⟨g, 0, none⟩).run Try.prog w = .ok (.agg c) w := run_loadVar_row _ _ _ _ _ _ _ hg Try.underlying32 rfl (infoI.trans (by rw [hc]))
 simp [results, h, hp', asAddr, hl]
set_option maxHeartbeats 4000000 in
theorem Text_calls (B E : Int) (A : Option Addr) (len cap : Nat) (S : Int) (ws : List Nat) (hM : ws.length = len) (hcap : len ≤ cap) (w : World) (hr : RdU w A ws) :
  Calls Try.prog 17 #[imv B E A len cap S] w fun e w' => ∃ v, e = .returned (.agg #[.int .u32 (Go.bits .and .u32 B 4294963200), .int .u32 E, v, .int .i64 0]) ∧ OwnU w' w.heap.size v (ws.take 40) ∧ Below w.heap.size w w' := by
 obtain ⟨k, hk⟩ : ∃ k, min len 40 = k := ⟨_, rfl⟩
 have hmin : min (len : Int) 40 = (k : Int) := by omega
 have hkl : k ≤ len := by omega
 have hk4 : k ≤ 40 := by omega
 have hlk : (ws.take 40).length = k := by rw [List.length_take, hM]; omega
 have hrk : RdU w A (ws.take 40) := by
  intro i hi
  rw [hlk] at hi
  obtain ⟨ad, e, hc⟩ := hr i (by omega)
  refine ⟨ad, e, hc.trans ?_⟩
  congr 2
  simp [List.getD_eq_getElem?_getD, List.getElem?_take, show i < 40 by omega]
 have HK := Lib.hid hlk
 have HR := Lib.hid hrk
 clear hr hM hk hlk hrk
 go_enter Try.func17, Try.ntmps17
 go_wp2
 obtain ⟨W0, hW0⟩ : ∃ W0, W0 = (w.alloc (.cells #[.int .u32 B, .int .u32 E, .slice A len cap, .int .i64 S] 32)).alloc (.cells #[.int .u32 0, .int .u32 0, .slice none 0 0, .int .i64 0] 32) := ⟨_, rfl⟩
 rw [← hW0]
 have X1 : Hid (W0.heap[w.heap.size]? = some (.cells #[.int .u32 B, .int .u32 E, .slice A len cap, .int .i64 S] 32 (0, 0))) := Lib.hid (by
  rw [hW0, heap_old _ _ _ (by simp)]
  exact (MapKept.heap_alloc w _).1)
 have X2 : Hid (W0.heap[w.heap.size + 1]? = some (.cells #[.int .u32 0, .int .u32 0, .slice none 0 0, .int .i64 0] 32 (0, 0))) := Lib.hid (by
  rw [hW0]
  have := (MapKept.heap_alloc (w.alloc (.cells #[.int .u32 B, .int .u32 E, .slice A len cap, .int .i64 S] 32)) (.cells #[.int .u32 0, .int .u32 0, .slice none 0 0, .int .i64 0] 32)).1
  simpa using this)
 have HB : Hid (Below w.heap.size w W0) := Lib.hid (by rw [hW0]; exact ((Below.refl _ w).alloc (Nat.le_refl _) _).alloc (by simp) _)
 have hz : w.heap.size + 2 ≤ W0.heap.size := by rw [hW0]; simp
 clear hW0
 refine wp_region_held_drew (S := fun w' => w'.heap[w.heap.size]? = some (.cells #[.int .u32 B, .int .u32 E, .slice A len cap, .int .i64 S] 32 (0, 0))) (by kernel_rfl) X1.out (fun hHeld => ?_)
 refine rq (v := ?_) 0 11 rfl rfl (Or.inl ⟨by rfl, ?_⟩) hHeld ?_
 rotate_left
 ·(intro w hSw; have s0 := cell_of_row _ _ 0 _ _ _ hSw; have s1 := cell_of_row _ _ 1 _ _ _ hSw; go_simp; try with_reducible rfl)
 simp only [Act.put, sa, s0', s1']
 refine rq (v := ?_) 1 12 rfl rfl (Or.inl ⟨by rfl, ?_⟩) hHeld ?_
 rotate_left
 ·(intro w hSw; have s0 := cell_of_row _ _ 0 _ _ _ hSw; have s1 := cell_of_row _ _ 1 _ _ _ hSw; go_simp; try with_reducible rfl)
 simp only [Act.put, sa, s0', s1']
 refine rq (v := ?_) 2 13 rfl rfl (Or.inl ⟨by rfl, ?_⟩) hHeld ?_
 rotate_left
 ·(intro w hSw; have s0 := cell_of_row _ _ 0 _ _ _ hSw; have s1 := cell_of_row _ _ 1 _ _ _ hSw; go_simp; try with_reducible rfl)
 simp only [Act.put, sa, s0', s1']
 refine rq (v := ?_) 3 14 rfl rfl (Or.inl ⟨by rfl, ?_⟩) hHeld ?_
 rotate_left
 ·(intro w hSw; have s0 := cell_of_row _ _ 0 _ _ _ hSw; have s1 := cell_of_row _ _ 1 _ _ _ hSw; go_simp; try with_reducible rfl)
 simp only [Act.put, sa, s0', s1']
 refine rq (v := ?_) 4 15 rfl rfl (Or.inl ⟨by rfl, ?_⟩) hHeld ?_
 rotate_left
 ·(intro w hSw; have s0 := cell_of_row _ _ 0 _ _ _ hSw; have s1 := cell_of_row _ _ 1 _ _ _ hSw; go_simp; try with_reducible rfl)
 simp only [Act.put, sa, s0', s1']
 refine rq (v := ?_) 6 17 rfl rfl (Or.inl ⟨by rfl, ?_⟩) hHeld ?_
 rotate_left
 ·(intro w hSw; clear hSw; go_simp; try with_reducible rfl)
 simp only [Act.put, sa, s0', s1']
 refine wpAnyH_ready (rs := [5]) (by kernel_rfl) (by simp) ?_
 refine AllReadyH.cons (i := 5) rfl (fun KA hKA => ?_) AllReadyH.nil
 go_simp
 refine absK (F := fun W => W = W0.drew.alloc (.cells #[] 24)) rfl ?_
 rintro W1 hW1
 obtain ⟨g4, hg4⟩ : ∃ g4, g4 = W0.heap.size := ⟨_, rfl⟩
 rw [← hg4]
 have k1 : OwnU W1 W0.heap.size (.slice (some ⟨g4, 0, none⟩) 0 0) [] := by rw [hW1, hg4]; exact OwnU.lit W0.drew W0.heap.size [] (Nat.le_refl _) (by simp [maxLen])
 have k3 : Below W0.heap.size W0 W1 := by rw [hW1]; exact (Below.refl W0.heap.size W0).drew.alloc (Nat.le_refl _) _
 clear hW1
 refine hKA.out _ _ ((k3.block w.heap.size (by omega)).trans X1.out) (fun hHeld => ?_)
 clear hKA KA
 try simp only [Act.put, sa, s0', s1']
 refine wpAnyH_ready (rs := [7]) (by kernel_rfl) (by simp) ?_
 refine AllReadyH.cons (i := 7) rfl (fun KA hKA => ?_) AllReadyH.nil
 rw [if_pos (by rfl)]
 refine wp_appN _ _ rfl W0.heap.size (.slice (some ⟨g4, 0, none⟩) 0 0) [] (ws.take 40) A cap k HK.out rfl k1 rfl (HR.out.below (HB.out.trans (k3.mono (by omega)))) (by simp) (by rw [HK.out]; omega) k3.size ?_
 intro v2 W2 ho2 hg2
 change KA (Act.put _ (some 18) _) _
 have k4 : Below W0.heap.size W0 W2 := OwnU.grow k1 k3 (Nat.le_refl _) hg2
 rw [List.nil_append] at ho2
 refine hKA.out _ _ ((k4.block w.heap.size (by omega)).trans X1.out) (fun hHeld => ?_)
 clear hKA KA
 try simp only [Act.put, sa, s0', s1']
 obtain ⟨o2, c2, hv2, -, -⟩ := ho2.opt
 rw [HK.out] at hv2
 subst hv2
 refine rq (v := ?_) 8 19 rfl rfl (Or.inl ⟨by rfl, ?_⟩) hHeld ?_
 rotate_left
 ·(intro w hSw; clear hSw; go_simp; try with_reducible rfl)
 simp only [Act.put, sa, s0', s1']
 refine wpAnyH_ready (rs := [9]) (by kernel_rfl) (by simp) ?_
 refine AllReadyH.cons (i := 9) rfl (fun KA hKA => ?_) AllReadyH.nil
 rw [if_pos (by rfl)]
 have kz := (k4.block (w.heap.size + 1) (by omega)).trans X2.out
 refine wp_store_row 32 _ _ rfl (w.heap.size + 1) #[.int .u32 (Go.bits .and .u32 B 4294963200), .int .u32 E, .slice o2 k c2, .int .i64 0] rfl rfl 32 _ kz infoI rfl (by simp [Value.oneCell']) ?_
 have hr1 : (W2.setRow (w.heap.size + 1) #[.int .u32 (Go.bits .and .u32 B 4294963200), .int .u32 E, .slice o2 k c2, .int .i64 0]).heap[w.heap.size + 1]? = some (.cells #[.int .u32 (Go.bits .and .u32 B 4294963200), .int .u32 E, .slice o2 k c2, .int .i64 0] 32 (0, 0)) := setRow_heap _ _ _ _ _ _ kz
 have hg5 : W2.grownBy (W2.setRow (w.heap.size + 1) #[.int .u32 (Go.bits .and .u32 B 4294963200), .int .u32 E, .slice o2 k c2, .int .i64 0]) (some (w.heap.size + 1)) := ⟨rfl, rfl, rfl, by simp [World.setRow], fun i hi hr => setRow_other _ _ _ _ (fun e => hr (by rw [e]))⟩
 refine hKA.out _ _ ((hg5.block w.heap.size (by have := k4.size; omega) (fun e => by injection e with e; omega)).trans ((k4.block w.heap.size (by omega)).trans X1.out)) (fun hHeld => ?_)
 clear hKA KA
 try simp only [Act.put, sa, s0', s1']
 refine wpAnyH_done (by kernel_rfl) ?_ _
 go_wp2
 refine retI rfl rfl hr1 rfl rfl ?_
 refine ⟨_, rfl, ?_, ?_⟩
 ·refine OwnU.lower (OwnU.kept' ho2 hg5 (by rintro k' ⟨⟩; left; omega)) (by omega)
 ·exact (HB.out.trans (k4.mono (by omega))).grown hg5 (Nat.le_trans HB.out.size k4.size) (by rintro k' ⟨⟩; omega)
end Go.Proofs.Ytekenddkoahjgaa.Bl
