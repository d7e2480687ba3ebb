import Derived.Test.YtcjbdfhofpfooaaZGF
import Derived.RangeFuncNested
import Derived.RangeFuncBound
import Derived.RangeFuncCalls
import Derived.RangeFuncLeaves
import Derived.RangeFuncBox
import Derived.Maps.OwnIn
import Derived.RangeFuncMany
import Derived.RangeFuncOne
import Derived.Shelf.Abstract
import Derived.Shelf.RegionOpen
import Derived.WalkKit
import Derived.OwnWalkIn
import Derived.TacticsInMore
import Derived.RegionIn
import Derived.LoopNIn
import Derived.LoopIn
import Derived.OrdersHeld
import Derived.Deep.RegionHeld
import Derived.OrdersIn
import Derived.Maps.AppendAt
import Derived.KernelRfl
import Derived.StillTailTactics
import Derived.Outline
import Derived.RegionTactic
import Derived.ChangeAlike
import Derived.BigRegion
import Derived.Deep.RegionWith
import Derived.LoopTactic
import Derived.BigQuiet
import Derived.Lib.Hide
/- Layer 18: the walks of package grammar (part GR). -/
namespace Go.Proofs.Ytcjbdfhofpfooaa.Gm
open Go.RowKit Go.Maps Go.Shelf Go.Proofs
set_option linter.unusedVariables false
set_option linter.unusedSimpArgs false
attribute [local go_sem] Oper.semAt_some
/-! ### A drawn region in a round of a loop over an iterator: as anywhere -/
/-- Only the ordinary way out. -/
def Nm (Q : Exit → Act → World → Prop) : Exit → Act → World → Prop
  | .normal, a, w => Q .normal a w
  | _, _, _ => False
theorem lets_nm {Q : Exit → Act → World → Prop} : ¬ LetsOut (Nm Q) := fun ⟨_, _, h⟩ => h
theorem rows_round {P : Program} {n : Nat} {row : String} {args : Array Value} {w : World} {R : Value → World → Prop} (l : Nat) (h : Rows P row args w R) : RowsIn (Fence.wide.inRound l) n P row args w R :=
  fun c cs _ => let ⟨v, w', r, s⟩ := h c cs; ⟨v, w', r, stepsIn_wide.2 s⟩
theorem op_round {P : Program} {l n : Nat} {o : Oper} {a : Act} {w : World} {K K' : Act → World → Prop} {Q : Exit → Act → World → Prop} (hd : ∀ c, o.op ≠ .defer c) (hK : ∀ a w, K a w → K' a w) (h : o.wp P a w K (Nm Q)) : o.wpIn (Fence.wide.inRound l) n P a w K' Q := by
  refine ⟨fun _ _ => trivial, ?_⟩
  rw [Fence.inRound_round, Oper.semAt_eq _ _ _ hd]
  unfold Oper.wp at h
  generalize (execOp a.eval o).run P w = r at *
  cases r with
  | ok x w' =>
    cases x <;> simp only [Oper.upon, Oper.uponIn] at h ⊢
    case value u => exact hK _ _ h
    case skip => exact hK _ _ h
    case defer d => exact hK _ _ h
    case enter f args =>
      refine ⟨fun h => by simp [Fence.wide] at h, CallsIn.inRound l (callsIn_wide.2 (h.mono fun e w'' he => ?_))⟩
      cases e with
      | returned u => exact hK _ _ he
      | panicked c => exact he.elim
      | outgrown => exact (lets_nm he).elim
    case row row args => exact ⟨fun h => by simp [Fence.wide] at h, rows_round l (h.mono fun u w'' he => hK _ _ he)⟩
  | halt x w' =>
    cases x <;> simp only [Oper.upon, Oper.uponIn] at h ⊢
    case panic u => exact h.elim
theorem any_round {P : Program} {l n : Nat} {md : Region.Mode} {ops : Array Oper} {Q : Exit → Act → World → Prop} (hd : ∀ (i : Nat) (o : Oper), ops[i]? = some o → ∀ c, o.op ≠ .defer c) : ∀ (fuel : Nat) (listed : Array Bool) (a : Act) (w : World), wpAny P md ops (Nm Q) fuel listed a w → wpAnyIn (Fence.wide.inRound l) n P md ops Q fuel listed a w
  | 0, _, _, _, h => h
  | fuel + 1, listed, a, w, h => ⟨fun hr => h.1 hr, fun i hi => by
      have h1 := h.2 i hi
      unfold wpOp at h1
      unfold wpOpIn
      cases ho : ops[i]? with
      | none => rw [ho] at h1; exact any_round hd fuel _ _ _ h1
      | some o =>
        rw [ho] at h1
        simp only at h1 ⊢
        split
        · rename_i hw
          rw [if_pos hw] at h1
          rcases h1 with h1 | ⟨_, h1⟩
          · exact op_round (hd i o ho) (fun a w hk => any_round hd fuel _ a w hk) h1
          · exact (lets_nm h1).elim
        · rename_i hw
          rw [if_neg hw] at h1
          exact ⟨fun _ _ => trivial, any_round hd fuel _ _ _ h1⟩⟩
theorem rh_take {P : Program} {ops : Array Oper} {Q : Exit → Act → World → Prop} {md : Region.Mode} {S : World → Prop} {i k : Nat} {oi : Oper} {v : Value} {fuel : Nat} {listed : Array Bool} {a : Act} {w : World} (hi : ops[i]? = some oi) (hk : oi.dst = some k)
    (hs : Region.noSelect ops = true) (hf : Region.free md ops listed i = true) (hr : (Region.ready md ops listed).contains i = true)
    (hQ : ∀ c a w, Q (.panic c) (a.put (some k) v) w → Q (.panic c) a w) (hy : YieldsIf P ops S oi v a) (hS : S w)
    (h : wpAnyH P md ops Q S fuel (listed.setIfInBounds i true) (a.put (some k) v) w) : wpAnyH P md ops Q S (fuel + 1) listed a w := by
  rw [← hk] at hQ h
  exact wpAnyH_take hi hs hf hr hQ hy hS h
/-- The beginning, in a round. -/
theorem region_round {P : Program} {l n id : Nat} {L : List Oper} {Q : Exit → Act → World → Prop} {a : Act} {w : World} (S : World → Prop) (hm : P.follows .mixedOrders = true) (hd : ∀ o : Oper, o ∈ L → ∀ c, o.op ≠ .defer c) (hS : S w.drew)
    (h : S w.drew → wpAnyH P .any L.toArray (Nm Q) S L.length (Array.replicate L.length false) a w.drew) : (Code.region id L.toArray true).wpIn (Fence.wide.inRound l) n P Q a w := by
  refine wpIn_region_any hm ?_
  refine any_round (fun i o ho => hd o ?_) _ _ _ _ (wpAny_of_held _ _ _ _ (h hS))
  simp at ho
  exact List.mem_of_getElem? ho
/-! ### One region of Run, in whatever order -/
theorem set5 {W : World} {g o0 o1 o2 o3 o4 b : Nat} {v0 v1 v2 v3 v4 : Value} (h : g ≠ b) (x : Nat) : (((((W.setCell ⟨g, o0, none⟩ v0).setCell ⟨g, o1, none⟩ v1).setCell ⟨g, o2, none⟩ v2).setCell ⟨g, o3, none⟩ v3).setCell ⟨g, o4, none⟩ v4).drew.cell? ⟨b, x, none⟩ = W.cell? ⟨b, x, none⟩ := by
  refine (cell_drew_own _ _).trans ?_
  rw [World.cell?_setCell_far _ _ _ _ h, World.cell?_setCell_far _ _ _ _ h, World.cell?_setCell_far _ _ _ _ h, World.cell?_setCell_far _ _ _ _ h, World.cell?_setCell_far _ _ _ _ h]
set_option maxRecDepth 100000 in
set_option maxHeartbeats 16000000 in
theorem region14 (l' n3 bl bo go gl i N cap p q k nf : Nat) (y z : In) (W : World) (K : Act → World → Prop) (Q : Exit → Act → World → Prop) (u0 u1 u2 u4 u5 u7 u8 u9 u12 u13 u14 u15 u16 u17 u18 u19 u20 u21 u22 u23 u24 u25 u26 u27 u28 u29 u30 u31 u32 u33 u34 u35 u36 u37 u38 u39 u40 u41 u42 u43 u44 u45 u46 u47 u48 u49 u50 u51 u52 u53 u54 u55 u56 u57 u58 u59 u60 : Value) (n3go : go ≠ n3) (blgo : go ≠ bl) (bogo : go ≠ bo) (glgo : go ≠ gl) (hN : N ≤ 5000) (hi : i ≤ 10)
    (d0 : W.cell? ⟨n3, 0, none⟩ = some (.int .i64 (q : Int))) (d1 : W.cell? ⟨bl, 0, none⟩ = some (.slice (some ⟨gl, 0, none⟩) N cap)) (d2 : W.cell? ⟨bo, 0, none⟩ = some (.slice (some ⟨go, 0, none⟩) i i))
    (y0 : W.cell? ⟨gl, k * 5, none⟩ = some (.int .i64 y.op)) (y1 : W.cell? ⟨gl, k * 5 + 1, none⟩ = some (.int .i64 y.rd)) (y2 : W.cell? ⟨gl, k * 5 + 2, none⟩ = some (.int .i64 y.a)) (y3 : W.cell? ⟨gl, k * 5 + 3, none⟩ = some (.int .i64 y.b)) (y4 : W.cell? ⟨gl, k * 5 + 4, none⟩ = some (.int .i64 y.m))
    (r0 : W.cell? ⟨go, p * 5, none⟩ = some (.int .i64 z.op)) (r1 : W.cell? ⟨go, p * 5 + 1, none⟩ = some (.int .i64 z.rd)) (r2 : W.cell? ⟨go, p * 5 + 2, none⟩ = some (.int .i64 z.a)) (r3 : W.cell? ⟨go, p * 5 + 3, none⟩ = some (.int .i64 z.b)) (r4 : W.cell? ⟨go, p * 5 + 4, none⟩ = some (.int .i64 z.m))
    (f0 : W.frozen? ⟨go, p * 5, none⟩ = false) (f1 : W.frozen? ⟨go, p * 5 + 1, none⟩ = false) (f2 : W.frozen? ⟨go, p * 5 + 2, none⟩ = false) (f3 : W.frozen? ⟨go, p * 5 + 3, none⟩ = false) (f4 : W.frozen? ⟨go, p * 5 + 4, none⟩ = false)
    (htm : Int.tmod (q : Int) (N : Int) = (k : Int)) (hkN : k < N) (hz : ¬ N = 0) (w1_ : IntKind.i64.wrap (k : Int) = (k : Int)) (g1_ : (k : Int) < (N : Int)) (hp : p < i) (g2_ : (p : Int) < (i : Int))
    (hK : ∀ W', W' = (((((W.setCell ⟨go, p * 5, none⟩ (.int .i64 y.op)).setCell ⟨go, p * 5 + 1, none⟩ (.int .i64 y.rd)).setCell ⟨go, p * 5 + 2, none⟩ (.int .i64 y.a)).setCell ⟨go, p * 5 + 3, none⟩ (.int .i64 y.b)).setCell ⟨go, p * 5 + 4, none⟩ (.int .i64 y.m)).drew → K { tmps := #[u0, u1, u2, .pointer (some ⟨n3, 0, none⟩), u4, u5, .pointer (some ⟨bl, 0, none⟩), u7, u8, u9, .pointer (some ⟨bo, 0, none⟩), .int .i64 (p : Int), u12, u13, u14, u15, u16, u17, u18, u19, u20, u21, u22, u23, u24, u25, u26, u27, u28, u29, u30, u31, u32, u33, u34, u35, u36, u37, u38, u39, u40, u41, u42, u43, u44, .slice (some ⟨go, 0, none⟩) i i, .int .i64 (p : Int), .slice (some ⟨gl, 0, none⟩) N cap, .int .i64 (q : Int), .slice (some ⟨gl, 0, none⟩) N cap, .int .i64 (N : Int), .int .i64 (k : Int), .pointer (some ⟨gl, k * 5, none⟩), ia y, .pointer (some ⟨go, p * 5, none⟩), u55, u56, u57, u58, u59, u60], defers := [] } W') :
    (Code.region 14 #[{ dst := some 45, op := Op.load 22 (Operand.tmp 10), type := 22, pos := "grammar.go:155", after := #[], guard := none }, { dst := some 46, op := Op.move (Operand.tmp 11), type := 3, pos := "grammar.go:155", after := #[], guard := none }, { dst := some 47, op := Op.load 22 (Operand.tmp 6), type := 22, pos := "grammar.go:155", after := #[], guard := none }, { dst := some 48, op := Op.load 3 (Operand.tmp 3), type := 3, pos := "grammar.go:155", after := #[], guard := none }, { dst := some 49, op := Op.load 22 (Operand.tmp 6), type := 22, pos := "grammar.go:155", after := #[], guard := none }, { dst := some 50, op := Op.call { callee := Callee.builtin Builtin.len, args := #[Operand.tmp 49], argTypes := #[22] }, type := 3, pos := "grammar.go:155", after := #[{ on := 4, ground := Ground.data }], guard := none }, { dst := some 51, op := Op.binOp BinOp.rem 3 (Operand.tmp 48) (Operand.tmp 50) 3, type := 3, pos := "grammar.go:155", after := #[{ on := 3, ground := Ground.data }, { on := 5, ground := Ground.data }], guard := none }, { dst := some 52, op := Op.indexAddr 22 (Operand.tmp 47) (Operand.tmp 51), type := 0, pos := "grammar.go:155", after := #[{ on := 2, ground := Ground.data }, { on := 6, ground := Ground.data }], guard := none }, { dst := some 53, op := Op.load 25 (Operand.tmp 52), type := 25, pos := "grammar.go:155", after := #[{ on := 7, ground := Ground.data }], guard := none }, { dst := some 54, op := Op.indexAddr 22 (Operand.tmp 45) (Operand.tmp 46), type := 0, pos := "grammar.go:155", after := #[{ on := 0, ground := Ground.data }, { on := 1, ground := Ground.data }, { on := 0, ground := Ground.phase }, { on := 1, ground := Ground.phase }, { on := 2, ground := Ground.phase }, { on := 3, ground := Ground.phase }, { on := 4, ground := Ground.phase }, { on := 5, ground := Ground.phase }, { on := 6, ground := Ground.phase }, { on := 7, ground := Ground.phase }, { on := 8, ground := Ground.phase }], guard := none }, { dst := none, op := Op.store 25 (Operand.tmp 54) (Operand.tmp 53), type := 0, pos := "grammar.go:155", after := #[{ on := 9, ground := Ground.data }, { on := 8, ground := Ground.data }, { on := 0, ground := Ground.phase }, { on := 1, ground := Ground.phase }, { on := 2, ground := Ground.phase }, { on := 3, ground := Ground.phase }, { on := 4, ground := Ground.phase }, { on := 5, ground := Ground.phase }, { on := 6, ground := Ground.phase }, { on := 7, ground := Ground.phase }, { on := 8, ground := Ground.phase }], guard := none }] true).wpIn (Fence.wide.inRound l') nf Try.prog (Exit.then K Q) { tmps := #[u0, u1, u2, .pointer (some ⟨n3, 0, none⟩), u4, u5, .pointer (some ⟨bl, 0, none⟩), u7, u8, u9, .pointer (some ⟨bo, 0, none⟩), .int .i64 (p : Int), u12, u13, u14, u15, u16, u17, u18, u19, u20, u21, u22, u23, u24, u25, u26, u27, u28, u29, u30, u31, u32, u33, u34, u35, u36, u37, u38, u39, u40, u41, u42, u43, u44, u45, u46, u47, u48, u49, u50, u51, u52, u53, u54, u55, u56, u57, u58, u59, u60], defers := [] } W := by
  refine region_round (S := fun w' => w'.cell? ⟨n3, 0, none⟩ = some (.int .i64 (q : Int)) ∧ w'.cell? ⟨bl, 0, none⟩ = some (.slice (some ⟨gl, 0, none⟩) N cap) ∧ w'.cell? ⟨bo, 0, none⟩ = some (.slice (some ⟨go, 0, none⟩) i i) ∧ w'.cell? ⟨gl, k * 5, none⟩ = some (.int .i64 y.op) ∧ w'.cell? ⟨gl, k * 5 + 1, none⟩ = some (.int .i64 y.rd) ∧ w'.cell? ⟨gl, k * 5 + 2, none⟩ = some (.int .i64 y.a) ∧ w'.cell? ⟨gl, k * 5 + 3, none⟩ = some (.int .i64 y.b) ∧ w'.cell? ⟨gl, k * 5 + 4, none⟩ = some (.int .i64 y.m)) (by kernel_rfl) (by intro o ho c; simp at ho; rcases ho with rfl | rfl | rfl | rfl | rfl | rfl | rfl | rfl | rfl | rfl | rfl <;> simp) ⟨d0, d1, d2, y0, y1, y2, y3, y4⟩ (fun hHeld => ?_)
  have HK := Lib.hid hK
  clear hK d0 d1 d2 y0 y1 y2 y3 y4
  refine rh_take (i := 0) (k := 45) (v := ?_) rfl rfl (by kernel_rfl) (by kernel_rfl) (by kernel_rfl) (fun _ _ _ h => h) (Or.inl ⟨by rfl, ?_⟩) hHeld ?_
  rotate_left
  · (intro w hSw; obtain ⟨s1, s2, s3, s4, s5, s6, s7, s8⟩ := hSw; go_simp; try with_reducible rfl)
  simp only [Act.put, List.setIfInBounds_toArray, List.set_cons_zero, List.set_cons_succ]
  refine rh_take (i := 1) (k := 46) (v := ?_) rfl rfl (by kernel_rfl) (by kernel_rfl) (by kernel_rfl) (fun _ _ _ h => h) (Or.inl ⟨by rfl, ?_⟩) hHeld ?_
  rotate_left
  · (intro w hSw; obtain ⟨s1, s2, s3, s4, s5, s6, s7, s8⟩ := hSw; go_simp; try with_reducible rfl)
  simp only [Act.put, List.setIfInBounds_toArray, List.set_cons_zero, List.set_cons_succ]
  refine rh_take (i := 2) (k := 47) (v := ?_) rfl rfl (by kernel_rfl) (by kernel_rfl) (by kernel_rfl) (fun _ _ _ h => h) (Or.inl ⟨by rfl, ?_⟩) hHeld ?_
  rotate_left
  · (intro w hSw; obtain ⟨s1, s2, s3, s4, s5, s6, s7, s8⟩ := hSw; go_simp; try with_reducible rfl)
  simp only [Act.put, List.setIfInBounds_toArray, List.set_cons_zero, List.set_cons_succ]
  refine rh_take (i := 3) (k := 48) (v := ?_) rfl rfl (by kernel_rfl) (by kernel_rfl) (by kernel_rfl) (fun _ _ _ h => h) (Or.inl ⟨by rfl, ?_⟩) hHeld ?_
  rotate_left
  · (intro w hSw; obtain ⟨s1, s2, s3, s4, s5, s6, s7, s8⟩ := hSw; go_simp; try with_reducible rfl)
  simp only [Act.put, List.setIfInBounds_toArray, List.set_cons_zero, List.set_cons_succ]
  refine rh_take (i := 4) (k := 49) (v := ?_) rfl rfl (by kernel_rfl) (by kernel_rfl) (by kernel_rfl) (fun _ _ _ h => h) (Or.inl ⟨by rfl, ?_⟩) hHeld ?_
  rotate_left
  · (intro w hSw; obtain ⟨s1, s2, s3, s4, s5, s6, s7, s8⟩ := hSw; go_simp; try with_reducible rfl)
  simp only [Act.put, List.setIfInBounds_toArray, List.set_cons_zero, List.set_cons_succ]
  refine rh_take (i := 5) (k := 50) (v := ?_) rfl rfl (by kernel_rfl) (by kernel_rfl) (by kernel_rfl) (fun _ _ _ h => h) (Or.inl ⟨by rfl, ?_⟩) hHeld ?_
  rotate_left
  · (intro w hSw; obtain ⟨s1, s2, s3, s4, s5, s6, s7, s8⟩ := hSw; go_simp; try with_reducible rfl)
  simp only [Act.put, List.setIfInBounds_toArray, List.set_cons_zero, List.set_cons_succ]
  refine rh_take (i := 6) (k := 51) (v := ?_) rfl rfl (by kernel_rfl) (by kernel_rfl) (by kernel_rfl) (fun _ _ _ h => h) (Or.inl ⟨by rfl, ?_⟩) hHeld ?_
  rotate_left
  · (intro w hSw; obtain ⟨s1, s2, s3, s4, s5, s6, s7, s8⟩ := hSw; go_simp; try with_reducible rfl)
  simp only [Act.put, List.setIfInBounds_toArray, List.set_cons_zero, List.set_cons_succ]
  refine rh_take (i := 7) (k := 52) (v := ?_) rfl rfl (by kernel_rfl) (by kernel_rfl) (by kernel_rfl) (fun _ _ _ h => h) (Or.inl ⟨by rfl, ?_⟩) hHeld ?_
  rotate_left
  · (intro w hSw; obtain ⟨s1, s2, s3, s4, s5, s6, s7, s8⟩ := hSw; go_simp; try with_reducible rfl)
  simp only [Act.put, List.setIfInBounds_toArray, List.set_cons_zero, List.set_cons_succ]
  refine rh_take (i := 8) (k := 53) (v := ?_) rfl rfl (by kernel_rfl) (by kernel_rfl) (by kernel_rfl) (fun _ _ _ h => h) (Or.inl ⟨by rfl, ?_⟩) hHeld ?_
  rotate_left
  · (intro w hSw; obtain ⟨s1, s2, s3, s4, s5, s6, s7, s8⟩ := hSw; go_simp; try with_reducible rfl)
  simp only [Act.put, List.setIfInBounds_toArray, List.set_cons_zero, List.set_cons_succ]
  refine rh_take (i := 9) (k := 54) (v := ?_) rfl rfl (by kernel_rfl) (by kernel_rfl) (by kernel_rfl) (fun _ _ _ h => h) (Or.inl ⟨by rfl, ?_⟩) hHeld ?_
  rotate_left
  · (intro w hSw; obtain ⟨s1, s2, s3, s4, s5, s6, s7, s8⟩ := hSw; go_simp; try with_reducible rfl)
  simp only [Act.put, List.setIfInBounds_toArray, List.set_cons_zero, List.set_cons_succ]
  refine wpAnyH_ready (rs := [10]) (by kernel_rfl) (by simp) ?_
  refine AllReadyH.cons (i := 10) rfl (fun K_ hK => ?_) AllReadyH.nil
  go_simp
  refine hK.out _ _ ⟨(set5 n3go _).trans hHeld.1, (set5 blgo _).trans hHeld.2.1, (set5 bogo _).trans hHeld.2.2.1, (set5 glgo _).trans hHeld.2.2.2.1, (set5 glgo _).trans hHeld.2.2.2.2.1, (set5 glgo _).trans hHeld.2.2.2.2.2.1, (set5 glgo _).trans hHeld.2.2.2.2.2.2.1, (set5 glgo _).trans hHeld.2.2.2.2.2.2.2⟩ (fun hHeld => ?_)
  clear hK K_
  refine wpAnyH_done (by kernel_rfl) ?_ _
  exact HK.out _ rfl
end Go.Proofs.Ytcjbdfhofpfooaa.Gm
