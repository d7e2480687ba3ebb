-- Written by this session's own driver (wip/tools/ownprint.py) over the kit's print: walks of the translated Go, each function once.
import Derived.Test.YtegpiempnjbfjaaQx0
import Derived.Test.YtegpiempnjbfjaaQx1
import Derived.Test.YtegpiempnjbfjaaQx2
import Derived.Test.YtegpiempnjbfjaaQx6
import Derived.Test.YtegpiempnjbfjaaQx7
import Derived.Test.YtegpiempnjbfjaaQx15
import Derived.Test.YtegpiempnjbfjaaQx17
namespace Go.Proofs.Ytegpiempnjbfjaa.Q
open Go.RowKit Go.Proofs.YtegpiempnjbfjaaW.PrintWords Go.Proofs.YtegpiempnjbfjaaW.PrintLast Go.Proofs.YtegpiempnjbfjaaW.PrintMore
attribute [local go_sem] max2_int min2_int max_two min_two max_three min_three max_four min_four   -- for this text's walks alone
attribute [local go_sem] imax_u32 imax_u8 isg_u32 isg_u8
set_option linter.unusedVariables false
set_option linter.unusedSimpArgs false

attribute [local go_sem high] eqA24
/-! ### inst_Encode: function 8 -/
def inst_Encode.f (k : Nat) (a0 a1 a2 a3 a4 : Int) : Option (Int × Int) :=
  (inst_Right.f k a0 a1 a2 a3 a4).bind fun t => if t = true then (if a0 = 45 then some (115, 0) else (if a0 = 46 then some (1048691, 0) else
    (if 0 ≤ a0 ∧ a0 < 47 then (inst_told.f k (kGet a0.toNat).1 (a4 % 4294967296)).bind fun tt => (inst_has.f k (kGet a0.toNat).1).bind fun hh =>
      (some (Go.bits .or .u32 (Go.bits .or .u32 (Go.bits .or .u32 (Go.bits .or .u32 (kGet a0.toNat).2.1 (((kGet a0.toNat).2.2.1 * 4096) % 4294967296)) (((kGet a0.toNat).2.2.2 * 33554432) % 4294967296)) (((a2 % 4294967296) * 32768) % 4294967296)) tt)).bind fun w0 =>
      (some (if hh.1 = true then Go.bits .or .u32 w0 (((a1 % 4294967296) * 128) % 4294967296) else w0)).bind fun w1 =>
      some (if hh.2.2 = true then Go.bits .or .u32 w1 (((a3 % 4294967296) * 1048576) % 4294967296) else w1, 0) else none))) else some (0, 20)
theorem inst_Encode.mono : ∀ a0 a1 a2 a3 a4 k, LeO (inst_Encode.f k a0 a1 a2 a3 a4) (inst_Encode.f (k + 1) a0 a1 a2 a3 a4) := by
  intro a0 a1 a2 a3 a4 k
  unfold inst_Encode.f
  repeat' first
      | (with_reducible exact inst_Right.mono _ _ _ _ _ _)
      | (with_reducible exact inst_told.mono _ _ _)
      | (with_reducible exact inst_has.mono _ _)
      | (with_reducible exact LeO.refl _)
      | (with_reducible refine LeO.ite ?_ ?_)
      | (with_reducible refine LeO.bind ?_ (fun _ => ?_))
theorem row_cells (w : World) (g : Nat) (cs : Array Value) (t : TypeId) (j : Nat) (h : w.heap[g]? = some (.cells cs t (0, 0))) : w.cell? ⟨g, j, none⟩ = cs[j]? := cell_of_row w g j cs t (0, 0) h
theorem heap_at (w : World) (o : Obj) : (w.alloc o).heap[w.heap.size]? = some o := heap_alloc_new w o
theorem keep_obj {w w1 : World} {O : Obj} (hb : Below (w.alloc O).heap.size (w.alloc O) w1) : w1.heap[w.heap.size]? = some O :=
  (hb.block _ (by show w.heap.size < (w.heap.push O).size; simp)).trans (heap_alloc_new w O)
theorem below_of_alloc {w w1 : World} {O : Obj} (hb : Below (w.alloc O).heap.size (w.alloc O) w1) : Below w.heap.size w w1 :=
  below_then (below_alloc (Below.refl _ _) O) (by show w.heap.size ≤ (w.heap.push O).size; simp) hb
theorem alloc_keep {w : World} {O : Obj} {a : Addr} {v : Value} (h : w.cell? a = some v) : (w.alloc O).cell? a = some v := (World.cell?_alloc_lt _ _ _ (World.block_lt_of_cell? w a h)).trans h
theorem keep4 {w : World} {g h : Nat} {O : Option Obj} {a b c d : Value} (hn : h ≠ g) (ho : w.heap[h]? = O) : ((((w.setCell ⟨g, 0, none⟩ a).setCell ⟨g, 1, none⟩ b).setCell ⟨g, 2, none⟩ c).setCell ⟨g, 3, none⟩ d).heap[h]? = O := by
  rw [heap_setCell_other _ _ _ _ hn, heap_setCell_other _ _ _ _ hn, heap_setCell_other _ _ _ _ hn, heap_setCell_other _ _ _ _ hn]; exact ho
theorem below4 {w W : World} {g : Nat} {a b c d : Value} (h : Below w.heap.size w W) (hg : w.heap.size ≤ g) : Below w.heap.size w ((((W.setCell ⟨g, 0, none⟩ a).setCell ⟨g, 1, none⟩ b).setCell ⟨g, 2, none⟩ c).setCell ⟨g, 3, none⟩ d) :=
  below_set (below_set (below_set (below_set h hg) hg) hg) hg
theorem lt_of_heap {w : World} {g : Nat} {O : Obj} (h : w.heap[g]? = some O) : g < w.heap.size := (Array.getElem?_eq_some_iff.1 h).1
set_option maxHeartbeats 3200000 in
set_option maxRecDepth 100000 in
theorem encode_row (k : Nat) (a0 a1 a2 a3 a4 : Int) (w : World) (n : Nat) (e0 : a0 = (n : Int)) (hn : n < 45) (HR : Aside0 (inst_Right.f k a0 a1 a2 a3 a4 = some true)) (a b c d tt w0 : Int) (h1 h2 h3 : Bool)
    (hk : kGet n = (a, b, c, d)) (HT : Aside0 (inst_told.f k a (a4 % 4294967296) = some tt)) (HH : Aside0 (inst_has.f k a = some (h1, h2, h3)))
    (HW : Aside0 (Go.bits .or .u32 (Go.bits .or .u32 (Go.bits .or .u32 (Go.bits .or .u32 b ((c * 4096) % 4294967296)) ((d * 33554432) % 4294967296)) (((a2 % 4294967296) * 32768) % 4294967296)) tt = w0)) :
    Calls Try.prog 8 #[.agg #[.int .i64 a0, .int .i64 a1, .int .i64 a2, .int .i64 a3, .int .i64 a4]] w fun e w' =>
      e = .returned (.tuple #[.int .u32 (if h3 = true then Go.bits .or .u32 (if h1 = true then Go.bits .or .u32 w0 (((a1 % 4294967296) * 128) % 4294967296) else w0) (((a3 % 4294967296) * 1048576) % 4294967296) else (if h1 = true then Go.bits .or .u32 w0 (((a1 % 4294967296) * 128) % 4294967296) else w0)), .int .i64 0]) ∧ Below w.heap.size w w' := by
  have hu24 := Try.underlying24
  have hi0 := kinds_index n (by omega)
  rw [hk] at hi0
  have hi : ∀ w : World, (Instr.index 35 (.agg kCells) (.int .i64 a0)).run Try.prog w = .ok (.agg #[.int .u8 a, .int .u32 b, .int .u32 c, .int .u32 d]) w := by rw [e0]; exact hi0
  clear hi0 hk
  have n45 : (a0 == 45) = false := beq_eq_false_iff_ne.mpr (by omega)
  have n46 : (a0 == 46) = false := beq_eq_false_iff_ne.mpr (by omega)
  clear e0 hn
  go_enter Try.func8, Try.ntmps8
  go_upto_region 8 with (go_at_call 10; (with_reducible refine (inst_Right.calls k a0 a1 a2 a3 a4 true _ HR.out).mono ?_); rintro e w1 ⟨rfl, hb1⟩; have HO := Aside0.mk (keep_obj hb1); have HB := Aside0.mk (below_of_alloc hb1); clear hb1; have hx0 : w1.cell? ⟨w.heap.size, 0, none⟩ = some (.int .i64 a0) := cell_of_row _ _ _ _ _ _ HO.out)
  go_outline
  go_cut [4] (fun v4 wc => ∃ g : Nat, v4 = .pointer (some ⟨g, 0, none⟩) ∧ Aside0 (w.heap.size < g) ∧ Aside0 (wc.heap[g]? = some (.cells #[.int .u8 a, .int .u32 b, .int .u32 c, .int .u32 d] 34 (0, 0))) ∧ Aside0 (wc.heap[w.heap.size]? = some (.cells #[.int .i64 a0, .int .i64 a1, .int .i64 a2, .int .i64 a3, .int .i64 a4] 24 (0, 0))) ∧ Aside0 (Below w.heap.size w wc))
  case first =>
    trace "first"
    have hlt := lt_of_heap HO.out
    have hxa : ∀ O, (w1.alloc O).cell? ⟨w.heap.size, 0, none⟩ = some (.int .i64 a0) := fun O => alloc_keep hx0
    go_region_with (go_at_call 12; refine (kinds_calls _).mono ?_; rintro e w2 ⟨rfl, hb2⟩; have hx2 : w2.cell? ⟨w.heap.size, 0, none⟩ = some (.int .i64 a0) := (hb2.cell (p := ⟨w.heap.size, 0, none⟩) (by simp; omega)).trans (by first | exact hx0 | exact alloc_keep hx0); have hxb : ∀ O, (w2.alloc O).cell? ⟨w.heap.size, 0, none⟩ = some (.int .i64 a0) := fun O => alloc_keep hx2; try (have HZ : w2.heap[w1.heap.size]? = some (.cells #[.int .u8 0, .int .u32 0, .int .u32 0, .int .u32 0] 34 (0, 0)) := (hb2.block _ (by show w1.heap.size < (w1.heap.push _).size; simp)).trans (heap_alloc_new w1 _); have z0 : w2.cell? ⟨w1.heap.size, 0, none⟩ = some (.int .u8 0) := cell_of_row _ _ _ _ _ _ HZ; have z1 : w2.cell? ⟨w1.heap.size, 1, none⟩ = some (.int .u32 0) := cell_of_row _ _ _ _ _ _ HZ; have z2 : w2.cell? ⟨w1.heap.size, 2, none⟩ = some (.int .u32 0) := cell_of_row _ _ _ _ _ _ HZ; have z3 : w2.cell? ⟨w1.heap.size, 3, none⟩ = some (.int .u32 0) := cell_of_row _ _ _ _ _ _ HZ; have y0 := frozen_of_row _ _ 0 _ _ HZ; have y1 := frozen_of_row _ _ 1 _ _ HZ; have y2 := frozen_of_row _ _ 2 _ _ HZ; have y3 := frozen_of_row _ _ 3 _ _ HZ; have HZ' := Aside0.mk HZ; clear HZ))
    all_goals (try go_wp2_with fail)
    all_goals go_meet
    all_goals (case rel => first
      | exact ⟨_, rfl, ⟨Nat.lt_of_lt_of_le hlt hb2.size⟩, ⟨heap_at w2 _⟩, ⟨(heap_alloc_old w2 _ (Nat.lt_of_lt_of_le hlt hb2.size)).trans ((hb2.block _ hlt).trans HO.out)⟩, ⟨below_alloc (below_then (below_drew HB.out) (Nat.le_of_lt hlt) hb2) _⟩⟩
      | exact ⟨_, rfl, ⟨hlt⟩, ⟨blk_set (blk_set (blk_set (blk_set HZ'.out 0 _) 1 _) 2 _) 3 _⟩, ⟨keep4 (Nat.ne_of_lt hlt) ((hb2.block _ (by show w.heap.size < (w1.heap.push _).size; simp; omega)).trans ((heap_alloc_old w1 _ hlt).trans HO.out))⟩, ⟨below4 (below_then (below_drew (below_alloc HB.out _)) (by show w.heap.size ≤ (w1.heap.push _).size; simp; omega) hb2) (Nat.le_of_lt hlt)⟩⟩
      | (trace_state; sorry))
  case rest =>
    obtain ⟨g, rfl, hg, HG, HO2, HB2⟩ := hcut
    clear hx0 HO HB
    have r0 : wc.cell? ⟨g, 0, none⟩ = some (.int .u8 a) := cell_of_row _ _ _ _ _ _ HG.out
    have r1 : wc.cell? ⟨g, 1, none⟩ = some (.int .u32 b) := cell_of_row _ _ _ _ _ _ HG.out
    have r2 : wc.cell? ⟨g, 2, none⟩ = some (.int .u32 c) := cell_of_row _ _ _ _ _ _ HG.out
    have r3 : wc.cell? ⟨g, 3, none⟩ = some (.int .u32 d) := cell_of_row _ _ _ _ _ _ HG.out
    have i2 : wc.cell? ⟨w.heap.size, 2, none⟩ = some (.int .i64 a2) := cell_of_row _ _ _ _ _ _ HO2.out
    have i4 : wc.cell? ⟨w.heap.size, 4, none⟩ = some (.int .i64 a4) := cell_of_row _ _ _ _ _ _ HO2.out
    have lg := Aside0.mk (lt_of_heap HG.out)
    have lo := Aside0.mk (lt_of_heap HO2.out)
    have HT2 : Aside0 (inst_told.f k a (IntKind.u32.wrap a4) = some tt) := by rw [IntKind.wrap_u32]; exact HT
    try go_wp2_with fail
    go_region_held3 (fun w' => w'.cell? ⟨g, 0, none⟩ = some (.int .u8 a) ∧ w'.cell? ⟨g, 1, none⟩ = some (.int .u32 b) ∧ w'.cell? ⟨g, 2, none⟩ = some (.int .u32 c) ∧ w'.cell? ⟨g, 3, none⟩ = some (.int .u32 d) ∧ w'.cell? ⟨w.heap.size, 2, none⟩ = some (.int .i64 a2) ∧ w'.cell? ⟨w.heap.size, 4, none⟩ = some (.int .i64 a4)) (first | exact ⟨r0, r1, r2, r3, i2, i4⟩ | (exact ⟨(hb3.cell (p := ⟨g, 0, none⟩) lg.out).trans r0, (hb3.cell (p := ⟨g, 1, none⟩) lg.out).trans r1, (hb3.cell (p := ⟨g, 2, none⟩) lg.out).trans r2, (hb3.cell (p := ⟨g, 3, none⟩) lg.out).trans r3, (hb3.cell (p := ⟨w.heap.size, 2, none⟩) lo.out).trans i2, (hb3.cell (p := ⟨w.heap.size, 4, none⟩) lo.out).trans i4⟩)) ((go_at_call 19; (with_reducible refine (inst_told.calls k a (IntKind.u32.wrap a4) tt _ HT2.out).mono ?_); rintro e w3 ⟨rfl, hb3⟩))
    trace "region 9"
    have HG3 := Aside0.mk ((hb3.block _ lg.out).trans HG.out)
    have HO3 := Aside0.mk ((hb3.block _ lo.out).trans HO2.out)
    have HB3 := Aside0.mk (below_then (below_drew HB2.out) (Nat.le_of_lt lo.out) hb3)
    clear r0 r1 r2 r3 i2 i4 hb3 HG HO2 HB2 lg lo
    have r0 : w3.cell? ⟨g, 0, none⟩ = some (.int .u8 a) := cell_of_row _ _ _ _ _ _ HG3.out
    have i1 : w3.cell? ⟨w.heap.size, 1, none⟩ = some (.int .i64 a1) := cell_of_row _ _ _ _ _ _ HO3.out
    have i3 : w3.cell? ⟨w.heap.size, 3, none⟩ = some (.int .i64 a3) := cell_of_row _ _ _ _ _ _ HO3.out
    go_wp2_with (go_at_call 15; (with_reducible refine (inst_has.calls k a h1 h2 h3 _ HH.out).mono ?_); rintro e w' ⟨rfl, ⟨nd, rfl⟩⟩)
    all_goals go_ret2
    all_goals exact ⟨by rw [← HW.out]; first | rfl | (simp [*]; done), by first | exact pw_below_drewN HB3.out _ | exact HB3.out⟩
set_option maxHeartbeats 1600000 in
set_option maxRecDepth 100000 in
theorem inst_Encode.calls (k : Nat) (a0 a1 a2 a3 a4 : Int) (r1 r2 : Int) (w : World) (h : inst_Encode.f k a0 a1 a2 a3 a4 = some (r1, r2)) :
    Calls Try.prog 8 #[.agg #[.int .i64 a0, .int .i64 a1, .int .i64 a2, .int .i64 a3, .int .i64 a4]] w fun e w' => e = .returned (.tuple #[.int .u32 r1, .int .i64 r2]) ∧ Below w.heap.size w w' := by
  have hu24 := Try.underlying24
  unfold inst_Encode.f at h
  obtain ⟨t, A1, h⟩ := Option.bind_eq_some_iff.mp h
  have HR := Aside0.mk A1
  clear A1
  cases t with
  | false =>
    rw [if_neg (by decide)] at h
    simp only [Option.some.injEq, Prod.mk.injEq] at h
    obtain ⟨rfl, rfl⟩ := h
    go_enter Try.func8, Try.ntmps8
    go_wp2_with (go_at_call 10; (with_reducible refine (inst_Right.calls k a0 a1 a2 a3 a4 false _ HR.out).mono ?_); rintro e w1 ⟨rfl, hb1⟩; have HB := Aside0.mk (below_of_alloc hb1); clear hb1)
    go_ret2
    exact ⟨rfl, HB.out⟩
  | true =>
    rw [if_pos rfl] at h
    by_cases c1 : a0 = 45
    · rw [if_pos c1] at h
      simp only [Option.some.injEq, Prod.mk.injEq] at h
      obtain ⟨rfl, rfl⟩ := h
      subst c1
      go_enter Try.func8, Try.ntmps8
      go_wp2_with (go_at_call 10; (with_reducible refine (inst_Right.calls k 45 a1 a2 a3 a4 true _ HR.out).mono ?_); rintro e w1 ⟨rfl, hb1⟩; have HO := Aside0.mk (keep_obj hb1); have HB := Aside0.mk (below_of_alloc hb1); clear hb1; have hx0 : w1.cell? ⟨w.heap.size, 0, none⟩ = some (.int .i64 45) := cell_of_row _ _ _ _ _ _ HO.out)
      go_ret2
      exact ⟨rfl, HB.out⟩
    rw [if_neg c1] at h
    by_cases c2 : a0 = 46
    · rw [if_pos c2] at h
      simp only [Option.some.injEq, Prod.mk.injEq] at h
      obtain ⟨rfl, rfl⟩ := h
      subst c2
      clear c1
      go_enter Try.func8, Try.ntmps8
      go_wp2_with (go_at_call 10; (with_reducible refine (inst_Right.calls k 46 a1 a2 a3 a4 true _ HR.out).mono ?_); rintro e w1 ⟨rfl, hb1⟩; have HO := Aside0.mk (keep_obj hb1); have HB := Aside0.mk (below_of_alloc hb1); clear hb1; have hx0 : w1.cell? ⟨w.heap.size, 0, none⟩ = some (.int .i64 46) := cell_of_row _ _ _ _ _ _ HO.out)
      go_ret2
      exact ⟨rfl, HB.out⟩
    rw [if_neg c2] at h
    by_cases c3 : 0 ≤ a0 ∧ a0 < 47
    · rw [if_pos c3] at h
      obtain ⟨n, hn⟩ := Int.eq_ofNat_of_zero_le c3.1
      rw [show a0.toNat = n by omega] at h
      obtain ⟨a, b, c, d, hk⟩ := kGet_some n
      rw [hk] at h
      obtain ⟨tt, A2, h⟩ := Option.bind_eq_some_iff.mp h
      obtain ⟨⟨h1, h2, h3⟩, A3, h⟩ := Option.bind_eq_some_iff.mp h
      obtain ⟨w0, A4, h⟩ := Option.bind_eq_some_iff.mp h
      obtain ⟨w1, A5, h⟩ := Option.bind_eq_some_iff.mp h
      have A4 := Option.some.inj A4
      have A5 := Option.some.inj A5
      subst A5
      simp only [Option.some.injEq, Prod.mk.injEq] at h
      obtain ⟨rfl, rfl⟩ := h
      exact encode_row k a0 a1 a2 a3 a4 w n hn (by omega) HR a b c d tt w0 h1 h2 h3 hk ⟨A2⟩ ⟨A3⟩ ⟨A4⟩
    · rw [if_neg c3] at h
      cases h

/-! ### whetstonelaw02_fixed: function 7 -/
theorem LeO.known {α β : Type} [DecidableEq α] {a a' : Option α} {v : α} {b b' : Option β} (h : LeO a a') (k : LeO b b') : LeO (if a = some v then b else none) (if a' = some v then b' else none) := by
  by_cases c : a = some v
  · rw [if_pos c, if_pos (h v c)]; exact k
  · rw [if_neg c]; exact LeO.none _
def whetstonelaw02_fixed.f (k : Nat) : Option Bool :=
  if inst_Encode.f k 18 1 2 0 (-5) = some (4289790099, 0) then if inst_Encode.f k 4 0 1 2 (-4) = some (4263546595, 0) then if inst_Encode.f k 2 1 0 0 2048 = some (1048815, 0) then if inst_Decode.f k 4263546595 = some (4, 0, 1, 2, -4, 0) then
  if inst_Decode.f k 0 = some (0, 0, 0, 0, 0, 20) then if inst_Encode.f k 18 0 0 0 2048 = some (0, 20) then some true else none else none else none else none else none else none
theorem whetstonelaw02_fixed.mono : ∀ k, LeO (whetstonelaw02_fixed.f k) (whetstonelaw02_fixed.f (k + 1)) := by
  intro k
  unfold whetstonelaw02_fixed.f
  exact LeO.known (inst_Encode.mono _ _ _ _ _ _) (LeO.known (inst_Encode.mono _ _ _ _ _ _) (LeO.known (inst_Encode.mono _ _ _ _ _ _) (LeO.known (inst_Decode.mono _ _) (LeO.known (inst_Decode.mono _ _) (LeO.known (inst_Encode.mono _ _ _ _ _ _) (LeO.refl _))))))
theorem known_step {β : Type} {c : Prop} [Decidable c] {b : Option β} {r : β} (h : (if c then b else none) = some r) : c ∧ b = some r := by
  by_cases d : c
  · rw [if_pos d] at h; exact ⟨d, h⟩
  · rw [if_neg d] at h; cases h
set_option maxHeartbeats 3200000 in
set_option maxRecDepth 100000 in
theorem whetstonelaw02_fixed.calls (k : Nat) (r : Bool) (w : World) (h : whetstonelaw02_fixed.f k = some r) :
    Calls Try.prog 7 #[] w fun e w' => e = .returned (.bool r) ∧ Below w.heap.size w w' := by
  have hu24 := Try.underlying24
  unfold whetstonelaw02_fixed.f at h
  obtain ⟨A1, h⟩ := known_step h
  obtain ⟨A2, h⟩ := known_step h
  obtain ⟨A3, h⟩ := known_step h
  obtain ⟨A4, h⟩ := known_step h
  obtain ⟨A5, h⟩ := known_step h
  obtain ⟨A6, h⟩ := known_step h
  obtain rfl := Option.some.inj h
  clear h
  replace A1 := Aside0.mk A1
  replace A2 := Aside0.mk A2
  replace A3 := Aside0.mk A3
  replace A4 := Aside0.mk A4
  replace A5 := Aside0.mk A5
  replace A6 := Aside0.mk A6
  have HB := Aside0.mk (Below.refl w.heap.size w)
  go_enter Try.func7, Try.ntmps7
  go_wp2_with (first
    | (go_at_call 8; (with_reducible refine (inst_Encode.calls k 18 1 2 0 (-5) _ _ _ A1.out).mono ?_); rintro e w1 ⟨rfl, hb⟩; have NB := Aside0.mk (below_step HB.out hb); clear HB hb; have HB := NB; clear NB)
    | (go_at_call 8; (with_reducible refine (inst_Encode.calls k 4 0 1 2 (-4) _ _ _ A2.out).mono ?_); rintro e w2 ⟨rfl, hb⟩; have NB := Aside0.mk (below_step HB.out hb); clear HB hb; have HB := NB; clear NB)
    | (go_at_call 8; (with_reducible refine (inst_Encode.calls k 2 1 0 0 2048 _ _ _ A3.out).mono ?_); rintro e w3 ⟨rfl, hb⟩; have NB := Aside0.mk (below_step HB.out hb); clear HB hb; have HB := NB; clear NB)
    | (go_at_call 5; (with_reducible refine (inst_Decode.calls k 4263546595 _ _ _ _ _ _ _ A4.out).mono ?_); rintro e w4 ⟨rfl, hb⟩; have NB := Aside0.mk (below_step HB.out hb); clear HB hb; have HB := NB; clear NB)
    | (go_at_call 5; (with_reducible refine (inst_Decode.calls k 0 _ _ _ _ _ _ _ A5.out).mono ?_); rintro e w5 ⟨rfl, hb⟩; have HX := Aside0.mk (keep_obj hb); have NB := Aside0.mk (below_step (below_alloc HB.out _) hb); clear HB hb; have HB := NB; clear NB)
    | (go_at_call 8; (with_reducible refine (inst_Encode.calls k 18 0 0 0 2048 _ _ _ A6.out).mono ?_); rintro e w6 ⟨rfl, hb⟩; have NX := Aside0.mk ((hb.block _ (Nat.lt_trans (lt_of_heap HX.out) (by show w5.heap.size < (w5.heap.push _).size; simp))).trans ((heap_alloc_old w5 _ (lt_of_heap HX.out)).trans HX.out)); have NB := Aside0.mk (below_step (below_alloc HB.out _) hb); clear HB hb HX; have HB := NB; clear NB; have hx0 := cell_of_row _ _ 0 _ _ _ NX.out; have hx1 := cell_of_row _ _ 1 _ _ _ NX.out; have hx2 := cell_of_row _ _ 2 _ _ _ NX.out; have hx3 := cell_of_row _ _ 3 _ _ _ NX.out; have hx4 := cell_of_row _ _ 4 _ _ _ NX.out; clear NX)
    | (go_at_call 18; (with_reducible refine (inst_Form.calls 0 _ _ rfl).mono ?_); rintro e w7 ⟨rfl, hb⟩; have NB := Aside0.mk (below_step HB.out hb); clear HB hb; have HB := NB; clear NB)
    | (go_at_call 18; (with_reducible refine (inst_Form.calls 47 _ _ rfl).mono ?_); rintro e w8 ⟨rfl, hb⟩; have NB := Aside0.mk (below_step HB.out hb); clear HB hb; have HB := NB; clear NB))
  go_ret
  exact ⟨rfl, HB.out⟩

/-! ### whetstonelaw02_InstDecodes: function 3 -/
def whetstonelaw02_InstDecodes.f (k : Nat) (a0 : Int) : Option (Bool) := (inst_Decode.f k a0).bind fun bt215 => ((whetstoneref02_Decode.f k a0).bind fun bt222 => ((whetstonelaw02_fixed.f k).bind fun t229 => (if t229 = true then (if (bt215.1 == bt222.1 && (bt215.2.1 == bt222.2.1 && (bt215.2.2.1 == bt222.2.2.1 && (bt215.2.2.2.1 == bt222.2.2.2.1 && (bt215.2.2.2.2.1 == bt222.2.2.2.2.1))))) = true then (some (bt215.2.2.2.2.2 == bt222.2.2.2.2.2)) else (some false)) else (some false))))
theorem whetstonelaw02_InstDecodes.mono : ∀ a0 k, LeO (whetstonelaw02_InstDecodes.f k a0) (whetstonelaw02_InstDecodes.f (k + 1) a0) := by
  intro a0 k
  unfold whetstonelaw02_InstDecodes.f
  repeat' first
      | (with_reducible exact inst_Decode.mono _ _)
      | (with_reducible exact whetstonelaw02_fixed.mono _)
      | (with_reducible exact whetstoneref02_Decode.mono _ _)
      | (with_reducible exact LeO.refl _)
      | (with_reducible exact LeO.none _)
      | (with_reducible refine LeO.ite ?_ ?_)
      | (with_reducible refine LeO.bind ?_ (fun _ => ?_))
      | exact inst_Decode.mono _ _
      | exact whetstonelaw02_fixed.mono _
      | exact whetstoneref02_Decode.mono _ _
      | exact LeO.none _
      | refine LeO.ite ?_ ?_
      | refine LeO.bind ?_ (fun _ => ?_)
set_option maxHeartbeats 8000000 in
set_option maxRecDepth 100000 in
theorem whetstonelaw02_InstDecodes.calls (k : Nat) (a0 : Int) (r : Bool) (w : World) (h : whetstonelaw02_InstDecodes.f k a0 = some r) :
    Calls Try.prog 3 #[.int .u32 a0] w fun e w' => e = .returned (.bool r) ∧ Below w.heap.size w w' := by
  have hu24 := Try.underlying24
  have HB := Aside0.mk (Below.refl w.heap.size w)
  have H : ((inst_Decode.f k a0).bind fun bt215 => ((whetstoneref02_Decode.f k a0).bind fun bt222 => ((whetstonelaw02_fixed.f k).bind fun t229 => (if t229 = true then (if (bt215.1 == bt222.1 && (bt215.2.1 == bt222.2.1 && (bt215.2.2.1 == bt222.2.2.1 && (bt215.2.2.2.1 == bt222.2.2.2.1 && (bt215.2.2.2.2.1 == bt222.2.2.2.2.1))))) = true then (some (bt215.2.2.2.2.2 == bt222.2.2.2.2.2)) else (some false)) else (some false))))) = some r := h
  clear h
  replace H := Option.bind_eq_some_iff.mp H
  obtain ⟨⟨t215, t216, t217, t218, t219, t220⟩, A20, H⟩ := H
  replace H : ((whetstoneref02_Decode.f k a0).bind fun bt222 => ((whetstonelaw02_fixed.f k).bind fun t229 => (if t229 = true then (if (t215 == bt222.1 && (t216 == bt222.2.1 && (t217 == bt222.2.2.1 && (t218 == bt222.2.2.2.1 && (t219 == bt222.2.2.2.2.1))))) = true then (some (t220 == bt222.2.2.2.2.2)) else (some false)) else (some false)))) = some r := H
  have A2 := Aside0.mk A20
  clear A20
  replace H := Option.bind_eq_some_iff.mp H
  obtain ⟨⟨t222, t223, t224, t225, t226, t227⟩, A30, H⟩ := H
  replace H : ((whetstonelaw02_fixed.f k).bind fun t229 => (if t229 = true then (if (t215 == t222 && (t216 == t223 && (t217 == t224 && (t218 == t225 && (t219 == t226))))) = true then (some (t220 == t227)) else (some false)) else (some false))) = some r := H
  have A3 := Aside0.mk A30
  clear A30
  replace H := Option.bind_eq_some_iff.mp H
  obtain ⟨t229, A40, H⟩ := H
  replace H : (if t229 = true then (if (t215 == t222 && (t216 == t223 && (t217 == t224 && (t218 == t225 && (t219 == t226))))) = true then (some (t220 == t227)) else (some false)) else (some false)) = some r := H
  have A4 := Aside0.mk A40
  clear A40
  by_cases c5 : t229 = true
  · subst c5
    have H1 : (if (t215 == t222 && (t216 == t223 && (t217 == t224 && (t218 == t225 && (t219 == t226))))) = true then (some (t220 == t227)) else (some false)) = some r := by rw [if_pos rfl] at H; exact H
    clear H
    have H := H1
    clear H1
    by_cases c6 : (t215 == t222 && (t216 == t223 && (t217 == t224 && (t218 == t225 && (t219 == t226))))) = true
    · rw [if_pos c6] at H
      have c6b0 : (t215 == t222 && (t216 == t223 && (t217 == t224 && (t218 == t225 && (t219 == t226))))) = true := c6
      (try (have c6b1 : decide (t215 = t222 && (t216 == t223 && (t217 == t224 && (t218 == t225 && (t219 == t226))))) = true := by simpa using c6))
      (try (have c6b2 : (t215 == t222 && (t216 == t223 && (t217 == t224 && (t218 == t225 && (t219 == t226))))) = true := by simpa using c6))
      clear c6
      obtain rfl := Option.some.inj H
      go_enter Try.func3, Try.ntmps3
      go_wp2_with (first | ((with_reducible refine gate_callee (f := 5) rfl ?_); refine goesL_ (some 9) rfl rfl Try.func5 (by kernel_rfl) rfl #[.int .u32 a0] rfl (by (try simp only [List.map_toArray, List.map_cons, List.map_nil]); first | done | rfl | (simp only [List.length_drop, List.length_take]; rfl)) ?_; (with_reducible refine (inst_Decode.calls k a0 t215 t216 t217 t218 t219 t220 _ A2.out).mono ?_); rintro e w7 ⟨rfl, hb⟩; refine ⟨_, rfl, ?_⟩; have n0_ := Aside0.mk (below_step (by repeat (first | (with_reducible first | exact HB.out | apply below_alloc | apply pw_below_drewN | apply below_drew1) | exact HB.out)) hb); clear HB; have HB := n0_; clear n0_; (try clear hb); (try clear hb2); (try clear hk); (try clear hi)) | ((with_reducible refine gate_dst (N := 3) rfl ?_); refine box_event ?hg (N := 3) ?hd (cs := #[.int .i64 0, .int .i64 0, .int .i64 0, .int .i64 0, .int .i64 0]) (t := 24) ?hr ?_; (case hd => rfl); (case hg => rfl); (case hr => first | (go_simp; done) | (go_simp; rfl)); intro gb221 hg w8 hbox hb; have n0_ := Aside0.mk (below_step (by repeat (first | (with_reducible first | exact HB.out | apply below_alloc | apply pw_below_drewN | apply below_drew1) | exact HB.out)) hb); have n1_ := Aside0.mk (hbox); have n2_ := Aside0.mk ((by rw [hg]; exact (below_size (by repeat (first | (with_reducible first | exact HB.out | apply below_alloc | apply pw_below_drewN | apply below_drew1) | exact HB.out))) : w.heap.size ≤ gb221)); have n3_ := Aside0.mk ((by rw [hg]; exact (below_size (by repeat (first | (with_reducible first | exact HB.out | apply below_alloc | apply pw_below_drewN | apply below_drew1) | exact HB.out))) : w.heap.size ≤ gb221)); clear HB; have HB := n0_; have BK221 := n1_; have GW221 := n2_; have GE221 := n3_; clear n0_ n1_ n2_ n3_; clear hb hbox hg; have hcz9_0 : w8.cell? ⟨gb221, 0, none⟩ = some (.int .i64 0) := (blk_cell BK221.out 0).trans rfl; have hcz9_1 : w8.cell? ⟨gb221, 1, none⟩ = some (.int .i64 0) := (blk_cell BK221.out 1).trans rfl; have hcz9_2 : w8.cell? ⟨gb221, 2, none⟩ = some (.int .i64 0) := (blk_cell BK221.out 2).trans rfl; have hcz9_3 : w8.cell? ⟨gb221, 3, none⟩ = some (.int .i64 0) := (blk_cell BK221.out 3).trans rfl; have hcz9_4 : w8.cell? ⟨gb221, 4, none⟩ = some (.int .i64 0) := (blk_cell BK221.out 4).trans rfl; have hfz9_0 := blk_frozen BK221.out 0; have hfz9_1 := blk_frozen BK221.out 1; have hfz9_2 := blk_frozen BK221.out 2; have hfz9_3 := blk_frozen BK221.out 3; have hfz9_4 := blk_frozen BK221.out 4) | ((with_reducible refine gate_callee (f := 6) rfl ?_); refine goesL_ (some 14) rfl rfl Try.func6 (by kernel_rfl) rfl #[.int .u32 a0] rfl (by (try simp only [List.map_toArray, List.map_cons, List.map_nil]); first | done | rfl | (simp only [List.length_drop, List.length_take]; rfl)) ?_; (with_reducible refine (whetstoneref02_Decode.calls k a0 t222 t223 t224 t225 t226 t227 _ A3.out).mono ?_); rintro e w10 ⟨rfl, hb⟩; refine ⟨_, rfl, ?_⟩; have n0_ := Aside0.mk (blk_below (g := gb221) (o := .cells #[.int .i64 t215, .int .i64 t216, .int .i64 t217, .int .i64 t218, .int .i64 t219] 24 (0, 0)) (by (with_reducible repeat (first | refine blk_drewN ?_ _ | refine blk_drew ?_ | refine blk_alloc ?_ _)); refine blk_put (cs := #[.int .i64 t215, .int .i64 t216, .int .i64 t217, .int .i64 t218, .int .i64 0]) ?_ 4 _ rfl; (with_reducible repeat (first | refine blk_drewN ?_ _ | refine blk_drew ?_ | refine blk_alloc ?_ _)); refine blk_put (cs := #[.int .i64 t215, .int .i64 t216, .int .i64 t217, .int .i64 0, .int .i64 0]) ?_ 3 _ rfl; (with_reducible repeat (first | refine blk_drewN ?_ _ | refine blk_drew ?_ | refine blk_alloc ?_ _)); refine blk_put (cs := #[.int .i64 t215, .int .i64 t216, .int .i64 0, .int .i64 0, .int .i64 0]) ?_ 2 _ rfl; (with_reducible repeat (first | refine blk_drewN ?_ _ | refine blk_drew ?_ | refine blk_alloc ?_ _)); refine blk_put (cs := #[.int .i64 t215, .int .i64 0, .int .i64 0, .int .i64 0, .int .i64 0]) ?_ 1 _ rfl; (with_reducible repeat (first | refine blk_drewN ?_ _ | refine blk_drew ?_ | refine blk_alloc ?_ _)); refine blk_put (cs := #[.int .i64 0, .int .i64 0, .int .i64 0, .int .i64 0, .int .i64 0]) ?_ 0 _ rfl; (with_reducible repeat (first | refine blk_drewN ?_ _ | refine blk_drew ?_ | refine blk_alloc ?_ _)); exact BK221.out) hb); have n1_ := Aside0.mk (below_step (by repeat (first | (with_reducible first | exact HB.out | apply below_alloc | apply pw_below_drewN | apply below_drew1 | refine below_set ?_ GE221.out) | exact HB.out)) hb); clear BK221; clear HB; have BK221 := n0_; have HB := n1_; clear n0_ n1_; (try clear hb); (try clear hb2); (try clear hk); (try clear hi)) | ((with_reducible refine gate_dst (N := 5) rfl ?_); refine box_event ?hg (N := 5) ?hd (cs := #[.int .i64 0, .int .i64 0, .int .i64 0, .int .i64 0, .int .i64 0]) (t := 24) ?hr ?_; (case hd => rfl); (case hg => rfl); (case hr => first | (go_simp; done) | (go_simp; rfl)); intro gb228 hg w11 hbox hb; have n0_ := Aside0.mk (blk_below (g := gb221) (o := .cells #[.int .i64 t215, .int .i64 t216, .int .i64 t217, .int .i64 t218, .int .i64 t219] 24 (0, 0)) (by (with_reducible repeat (first | refine blk_drewN ?_ _ | refine blk_drew ?_ | refine blk_alloc ?_ _)); exact BK221.out) hb); have n1_ := Aside0.mk (below_step (by repeat (first | (with_reducible first | exact HB.out | apply below_alloc | apply pw_below_drewN | apply below_drew1 | refine below_set ?_ GE221.out) | exact HB.out)) hb); have n2_ := Aside0.mk (hbox); have n3_ := Aside0.mk ((by rw [hg]; exact (below_size (by repeat (first | (with_reducible first | exact HB.out | apply below_alloc | apply pw_below_drewN | apply below_drew1 | refine below_set ?_ GE221.out) | exact HB.out))) : w.heap.size ≤ gb228)); have n4_ := Aside0.mk ((by rw [hg]; exact (below_size (by repeat (first | (with_reducible first | exact HB.out | apply below_alloc | apply pw_below_drewN | apply below_drew1 | refine below_set ?_ GE221.out) | exact HB.out))) : w.heap.size ≤ gb228)); have n5_ := Aside0.mk ((by rw [hg]; exact Nat.ne_of_lt (blk_lt (g := gb221) (o := .cells #[.int .i64 t215, .int .i64 t216, .int .i64 t217, .int .i64 t218, .int .i64 t219] 24 (0, 0)) (by (with_reducible repeat (first | refine blk_drewN ?_ _ | refine blk_drew ?_ | refine blk_alloc ?_ _)); exact BK221.out)) : gb221 ≠ gb228)); have n6_ := Aside0.mk ((by rw [hg]; exact Nat.ne_of_gt (blk_lt (g := gb221) (o := .cells #[.int .i64 t215, .int .i64 t216, .int .i64 t217, .int .i64 t218, .int .i64 t219] 24 (0, 0)) (by (with_reducible repeat (first | refine blk_drewN ?_ _ | refine blk_drew ?_ | refine blk_alloc ?_ _)); exact BK221.out)) : gb228 ≠ gb221)); clear BK221; clear HB; have BK221 := n0_; have HB := n1_; have BK228 := n2_; have GW228 := n3_; have GE228 := n4_; have NB221_228 := n5_; have NB228_221 := n6_; clear n0_ n1_ n2_ n3_ n4_ n5_ n6_; clear hb hbox hg; have hnb12 := NB228_221.out; have hnc12 := NB221_228.out; have hcz13_0 : w11.cell? ⟨gb228, 0, none⟩ = some (.int .i64 0) := (blk_cell BK228.out 0).trans rfl; have hcz13_1 : w11.cell? ⟨gb228, 1, none⟩ = some (.int .i64 0) := (blk_cell BK228.out 1).trans rfl; have hcz13_2 : w11.cell? ⟨gb228, 2, none⟩ = some (.int .i64 0) := (blk_cell BK228.out 2).trans rfl; have hcz13_3 : w11.cell? ⟨gb228, 3, none⟩ = some (.int .i64 0) := (blk_cell BK228.out 3).trans rfl; have hcz13_4 : w11.cell? ⟨gb228, 4, none⟩ = some (.int .i64 0) := (blk_cell BK228.out 4).trans rfl; have hfz13_0 := blk_frozen BK228.out 0; have hfz13_1 := blk_frozen BK228.out 1; have hfz13_2 := blk_frozen BK228.out 2; have hfz13_3 := blk_frozen BK228.out 3; have hfz13_4 := blk_frozen BK228.out 4) | ((with_reducible refine gate_callee (f := 7) rfl ?_); refine goesL_ (some 17) rfl rfl Try.func7 (by kernel_rfl) rfl #[] rfl (by (try simp only [List.map_toArray, List.map_cons, List.map_nil]); first | done | rfl | (simp only [List.length_drop, List.length_take]; rfl)) ?_; (with_reducible refine (whetstonelaw02_fixed.calls k  true _ A4.out).mono ?_); rintro e w14 ⟨rfl, hb⟩; refine ⟨_, rfl, ?_⟩; have n0_ := Aside0.mk (blk_below (g := gb221) (o := .cells #[.int .i64 t215, .int .i64 t216, .int .i64 t217, .int .i64 t218, .int .i64 t219] 24 (0, 0)) (by (with_reducible repeat (first | refine blk_drewN ?_ _ | refine blk_drew ?_ | refine blk_alloc ?_ _)); refine blk_far ?_ NB221_228.out _; (with_reducible repeat (first | refine blk_drewN ?_ _ | refine blk_drew ?_ | refine blk_alloc ?_ _)); refine blk_far ?_ NB221_228.out _; (with_reducible repeat (first | refine blk_drewN ?_ _ | refine blk_drew ?_ | refine blk_alloc ?_ _)); refine blk_far ?_ NB221_228.out _; (with_reducible repeat (first | refine blk_drewN ?_ _ | refine blk_drew ?_ | refine blk_alloc ?_ _)); refine blk_far ?_ NB221_228.out _; (with_reducible repeat (first | refine blk_drewN ?_ _ | refine blk_drew ?_ | refine blk_alloc ?_ _)); refine blk_far ?_ NB221_228.out _; (with_reducible repeat (first | refine blk_drewN ?_ _ | refine blk_drew ?_ | refine blk_alloc ?_ _)); exact BK221.out) hb); have n1_ := Aside0.mk (blk_below (g := gb228) (o := .cells #[.int .i64 t222, .int .i64 t223, .int .i64 t224, .int .i64 t225, .int .i64 t226] 24 (0, 0)) (by (with_reducible repeat (first | refine blk_drewN ?_ _ | refine blk_drew ?_ | refine blk_alloc ?_ _)); refine blk_put (cs := #[.int .i64 t222, .int .i64 t223, .int .i64 t224, .int .i64 t225, .int .i64 0]) ?_ 4 _ rfl; (with_reducible repeat (first | refine blk_drewN ?_ _ | refine blk_drew ?_ | refine blk_alloc ?_ _)); refine blk_put (cs := #[.int .i64 t222, .int .i64 t223, .int .i64 t224, .int .i64 0, .int .i64 0]) ?_ 3 _ rfl; (with_reducible repeat (first | refine blk_drewN ?_ _ | refine blk_drew ?_ | refine blk_alloc ?_ _)); refine blk_put (cs := #[.int .i64 t222, .int .i64 t223, .int .i64 0, .int .i64 0, .int .i64 0]) ?_ 2 _ rfl; (with_reducible repeat (first | refine blk_drewN ?_ _ | refine blk_drew ?_ | refine blk_alloc ?_ _)); refine blk_put (cs := #[.int .i64 t222, .int .i64 0, .int .i64 0, .int .i64 0, .int .i64 0]) ?_ 1 _ rfl; (with_reducible repeat (first | refine blk_drewN ?_ _ | refine blk_drew ?_ | refine blk_alloc ?_ _)); refine blk_put (cs := #[.int .i64 0, .int .i64 0, .int .i64 0, .int .i64 0, .int .i64 0]) ?_ 0 _ rfl; (with_reducible repeat (first | refine blk_drewN ?_ _ | refine blk_drew ?_ | refine blk_alloc ?_ _)); exact BK228.out) hb); have n2_ := Aside0.mk (below_step (by repeat (first | (with_reducible first | exact HB.out | apply below_alloc | apply pw_below_drewN | apply below_drew1 | refine below_set ?_ GE221.out | refine below_set ?_ GE228.out) | exact HB.out)) hb); clear BK221; clear BK228; clear HB; have BK221 := n0_; have BK228 := n1_; have HB := n2_; clear n0_ n1_ n2_; (try clear hb); (try clear hb2); (try clear hk); (try clear hi); have hcz15_0 : w14.cell? ⟨gb221, 0, none⟩ = some (.int .i64 t215) := (blk_cell BK221.out 0).trans rfl; have hcz15_1 : w14.cell? ⟨gb221, 1, none⟩ = some (.int .i64 t216) := (blk_cell BK221.out 1).trans rfl; have hcz15_2 : w14.cell? ⟨gb221, 2, none⟩ = some (.int .i64 t217) := (blk_cell BK221.out 2).trans rfl; have hcz15_3 : w14.cell? ⟨gb221, 3, none⟩ = some (.int .i64 t218) := (blk_cell BK221.out 3).trans rfl; have hcz15_4 : w14.cell? ⟨gb221, 4, none⟩ = some (.int .i64 t219) := (blk_cell BK221.out 4).trans rfl; have hfz15_0 := blk_frozen BK221.out 0; have hfz15_1 := blk_frozen BK221.out 1; have hfz15_2 := blk_frozen BK221.out 2; have hfz15_3 := blk_frozen BK221.out 3; have hfz15_4 := blk_frozen BK221.out 4; have hcz16_0 : w14.cell? ⟨gb228, 0, none⟩ = some (.int .i64 t222) := (blk_cell BK228.out 0).trans rfl; have hcz16_1 : w14.cell? ⟨gb228, 1, none⟩ = some (.int .i64 t223) := (blk_cell BK228.out 1).trans rfl; have hcz16_2 : w14.cell? ⟨gb228, 2, none⟩ = some (.int .i64 t224) := (blk_cell BK228.out 2).trans rfl; have hcz16_3 : w14.cell? ⟨gb228, 3, none⟩ = some (.int .i64 t225) := (blk_cell BK228.out 3).trans rfl; have hcz16_4 : w14.cell? ⟨gb228, 4, none⟩ = some (.int .i64 t226) := (blk_cell BK228.out 4).trans rfl; have hfz16_0 := blk_frozen BK228.out 0; have hfz16_1 := blk_frozen BK228.out 1; have hfz16_2 := blk_frozen BK228.out 2; have hfz16_3 := blk_frozen BK228.out 3; have hfz16_4 := blk_frozen BK228.out 4))
      go_ret
      exact ⟨by first | rfl | (simp [errW_none, errW_some] <;> rfl) | (simp [*, errW_none, errW_some] <;> rfl), by repeat (first | (with_reducible first | exact HB.out | apply below_alloc | apply pw_below_drewN | apply below_drew1 | refine below_set ?_ GE221.out | refine below_set ?_ GE228.out) | exact HB.out)⟩
    · rw [if_neg c6] at H
      have c6b0 : (t215 == t222 && (t216 == t223 && (t217 == t224 && (t218 == t225 && (t219 == t226))))) = false := by simpa using c6
      (try (have c6b1 : decide (t215 = t222 && (t216 == t223 && (t217 == t224 && (t218 == t225 && (t219 == t226))))) = false := by simpa using c6))
      (try (have c6b2 : (t215 == t222 && (t216 == t223 && (t217 == t224 && (t218 == t225 && (t219 == t226))))) = false := by simpa using c6))
      (try (have c6b3 : ¬ (t215 = t222 && (t216 == t223 && (t217 == t224 && (t218 == t225 && (t219 == t226))))) := by simpa using c6))
      clear c6
      obtain rfl := Option.some.inj H
      go_enter Try.func3, Try.ntmps3
      go_wp2_with (first | ((with_reducible refine gate_callee (f := 5) rfl ?_); refine goesL_ (some 9) rfl rfl Try.func5 (by kernel_rfl) rfl #[.int .u32 a0] rfl (by (try simp only [List.map_toArray, List.map_cons, List.map_nil]); first | done | rfl | (simp only [List.length_drop, List.length_take]; rfl)) ?_; (with_reducible refine (inst_Decode.calls k a0 t215 t216 t217 t218 t219 t220 _ A2.out).mono ?_); rintro e w17 ⟨rfl, hb⟩; refine ⟨_, rfl, ?_⟩; have n0_ := Aside0.mk (below_step (by repeat (first | (with_reducible first | exact HB.out | apply below_alloc | apply pw_below_drewN | apply below_drew1) | exact HB.out)) hb); clear HB; have HB := n0_; clear n0_; (try clear hb); (try clear hb2); (try clear hk); (try clear hi)) | ((with_reducible refine gate_dst (N := 3) rfl ?_); refine box_event ?hg (N := 3) ?hd (cs := #[.int .i64 0, .int .i64 0, .int .i64 0, .int .i64 0, .int .i64 0]) (t := 24) ?hr ?_; (case hd => rfl); (case hg => rfl); (case hr => first | (go_simp; done) | (go_simp; rfl)); intro gb221 hg w18 hbox hb; have n0_ := Aside0.mk (below_step (by repeat (first | (with_reducible first | exact HB.out | apply below_alloc | apply pw_below_drewN | apply below_drew1) | exact HB.out)) hb); have n1_ := Aside0.mk (hbox); have n2_ := Aside0.mk ((by rw [hg]; exact (below_size (by repeat (first | (with_reducible first | exact HB.out | apply below_alloc | apply pw_below_drewN | apply below_drew1) | exact HB.out))) : w.heap.size ≤ gb221)); have n3_ := Aside0.mk ((by rw [hg]; exact (below_size (by repeat (first | (with_reducible first | exact HB.out | apply below_alloc | apply pw_below_drewN | apply below_drew1) | exact HB.out))) : w.heap.size ≤ gb221)); clear HB; have HB := n0_; have BK221 := n1_; have GW221 := n2_; have GE221 := n3_; clear n0_ n1_ n2_ n3_; clear hb hbox hg; have hcz19_0 : w18.cell? ⟨gb221, 0, none⟩ = some (.int .i64 0) := (blk_cell BK221.out 0).trans rfl; have hcz19_1 : w18.cell? ⟨gb221, 1, none⟩ = some (.int .i64 0) := (blk_cell BK221.out 1).trans rfl; have hcz19_2 : w18.cell? ⟨gb221, 2, none⟩ = some (.int .i64 0) := (blk_cell BK221.out 2).trans rfl; have hcz19_3 : w18.cell? ⟨gb221, 3, none⟩ = some (.int .i64 0) := (blk_cell BK221.out 3).trans rfl; have hcz19_4 : w18.cell? ⟨gb221, 4, none⟩ = some (.int .i64 0) := (blk_cell BK221.out 4).trans rfl; have hfz19_0 := blk_frozen BK221.out 0; have hfz19_1 := blk_frozen BK221.out 1; have hfz19_2 := blk_frozen BK221.out 2; have hfz19_3 := blk_frozen BK221.out 3; have hfz19_4 := blk_frozen BK221.out 4) | ((with_reducible refine gate_callee (f := 6) rfl ?_); refine goesL_ (some 14) rfl rfl Try.func6 (by kernel_rfl) rfl #[.int .u32 a0] rfl (by (try simp only [List.map_toArray, List.map_cons, List.map_nil]); first | done | rfl | (simp only [List.length_drop, List.length_take]; rfl)) ?_; (with_reducible refine (whetstoneref02_Decode.calls k a0 t222 t223 t224 t225 t226 t227 _ A3.out).mono ?_); rintro e w20 ⟨rfl, hb⟩; refine ⟨_, rfl, ?_⟩; have n0_ := Aside0.mk (blk_below (g := gb221) (o := .cells #[.int .i64 t215, .int .i64 t216, .int .i64 t217, .int .i64 t218, .int .i64 t219] 24 (0, 0)) (by (with_reducible repeat (first | refine blk_drewN ?_ _ | refine blk_drew ?_ | refine blk_alloc ?_ _)); refine blk_put (cs := #[.int .i64 t215, .int .i64 t216, .int .i64 t217, .int .i64 t218, .int .i64 0]) ?_ 4 _ rfl; (with_reducible repeat (first | refine blk_drewN ?_ _ | refine blk_drew ?_ | refine blk_alloc ?_ _)); refine blk_put (cs := #[.int .i64 t215, .int .i64 t216, .int .i64 t217, .int .i64 0, .int .i64 0]) ?_ 3 _ rfl; (with_reducible repeat (first | refine blk_drewN ?_ _ | refine blk_drew ?_ | refine blk_alloc ?_ _)); refine blk_put (cs := #[.int .i64 t215, .int .i64 t216, .int .i64 0, .int .i64 0, .int .i64 0]) ?_ 2 _ rfl; (with_reducible repeat (first | refine blk_drewN ?_ _ | refine blk_drew ?_ | refine blk_alloc ?_ _)); refine blk_put (cs := #[.int .i64 t215, .int .i64 0, .int .i64 0, .int .i64 0, .int .i64 0]) ?_ 1 _ rfl; (with_reducible repeat (first | refine blk_drewN ?_ _ | refine blk_drew ?_ | refine blk_alloc ?_ _)); refine blk_put (cs := #[.int .i64 0, .int .i64 0, .int .i64 0, .int .i64 0, .int .i64 0]) ?_ 0 _ rfl; (with_reducible repeat (first | refine blk_drewN ?_ _ | refine blk_drew ?_ | refine blk_alloc ?_ _)); exact BK221.out) hb); have n1_ := Aside0.mk (below_step (by repeat (first | (with_reducible first | exact HB.out | apply below_alloc | apply pw_below_drewN | apply below_drew1 | refine below_set ?_ GE221.out) | exact HB.out)) hb); clear BK221; clear HB; have BK221 := n0_; have HB := n1_; clear n0_ n1_; (try clear hb); (try clear hb2); (try clear hk); (try clear hi)) | ((with_reducible refine gate_dst (N := 5) rfl ?_); refine box_event ?hg (N := 5) ?hd (cs := #[.int .i64 0, .int .i64 0, .int .i64 0, .int .i64 0, .int .i64 0]) (t := 24) ?hr ?_; (case hd => rfl); (case hg => rfl); (case hr => first | (go_simp; done) | (go_simp; rfl)); intro gb228 hg w21 hbox hb; have n0_ := Aside0.mk (blk_below (g := gb221) (o := .cells #[.int .i64 t215, .int .i64 t216, .int .i64 t217, .int .i64 t218, .int .i64 t219] 24 (0, 0)) (by (with_reducible repeat (first | refine blk_drewN ?_ _ | refine blk_drew ?_ | refine blk_alloc ?_ _)); exact BK221.out) hb); have n1_ := Aside0.mk (below_step (by repeat (first | (with_reducible first | exact HB.out | apply below_alloc | apply pw_below_drewN | apply below_drew1 | refine below_set ?_ GE221.out) | exact HB.out)) hb); have n2_ := Aside0.mk (hbox); have n3_ := Aside0.mk ((by rw [hg]; exact (below_size (by repeat (first | (with_reducible first | exact HB.out | apply below_alloc | apply pw_below_drewN | apply below_drew1 | refine below_set ?_ GE221.out) | exact HB.out))) : w.heap.size ≤ gb228)); have n4_ := Aside0.mk ((by rw [hg]; exact (below_size (by repeat (first | (with_reducible first | exact HB.out | apply below_alloc | apply pw_below_drewN | apply below_drew1 | refine below_set ?_ GE221.out) | exact HB.out))) : w.heap.size ≤ gb228)); have n5_ := Aside0.mk ((by rw [hg]; exact Nat.ne_of_lt (blk_lt (g := gb221) (o := .cells #[.int .i64 t215, .int .i64 t216, .int .i64 t217, .int .i64 t218, .int .i64 t219] 24 (0, 0)) (by (with_reducible repeat (first | refine blk_drewN ?_ _ | refine blk_drew ?_ | refine blk_alloc ?_ _)); exact BK221.out)) : gb221 ≠ gb228)); have n6_ := Aside0.mk ((by rw [hg]; exact Nat.ne_of_gt (blk_lt (g := gb221) (o := .cells #[.int .i64 t215, .int .i64 t216, .int .i64 t217, .int .i64 t218, .int .i64 t219] 24 (0, 0)) (by (with_reducible repeat (first | refine blk_drewN ?_ _ | refine blk_drew ?_ | refine blk_alloc ?_ _)); exact BK221.out)) : gb228 ≠ gb221)); clear BK221; clear HB; have BK221 := n0_; have HB := n1_; have BK228 := n2_; have GW228 := n3_; have GE228 := n4_; have NB221_228 := n5_; have NB228_221 := n6_; clear n0_ n1_ n2_ n3_ n4_ n5_ n6_; clear hb hbox hg; have hnb22 := NB228_221.out; have hnc22 := NB221_228.out; have hcz23_0 : w21.cell? ⟨gb228, 0, none⟩ = some (.int .i64 0) := (blk_cell BK228.out 0).trans rfl; have hcz23_1 : w21.cell? ⟨gb228, 1, none⟩ = some (.int .i64 0) := (blk_cell BK228.out 1).trans rfl; have hcz23_2 : w21.cell? ⟨gb228, 2, none⟩ = some (.int .i64 0) := (blk_cell BK228.out 2).trans rfl; have hcz23_3 : w21.cell? ⟨gb228, 3, none⟩ = some (.int .i64 0) := (blk_cell BK228.out 3).trans rfl; have hcz23_4 : w21.cell? ⟨gb228, 4, none⟩ = some (.int .i64 0) := (blk_cell BK228.out 4).trans rfl; have hfz23_0 := blk_frozen BK228.out 0; have hfz23_1 := blk_frozen BK228.out 1; have hfz23_2 := blk_frozen BK228.out 2; have hfz23_3 := blk_frozen BK228.out 3; have hfz23_4 := blk_frozen BK228.out 4) | ((with_reducible refine gate_callee (f := 7) rfl ?_); refine goesL_ (some 17) rfl rfl Try.func7 (by kernel_rfl) rfl #[] rfl (by (try simp only [List.map_toArray, List.map_cons, List.map_nil]); first | done | rfl | (simp only [List.length_drop, List.length_take]; rfl)) ?_; (with_reducible refine (whetstonelaw02_fixed.calls k  true _ A4.out).mono ?_); rintro e w24 ⟨rfl, hb⟩; refine ⟨_, rfl, ?_⟩; have n0_ := Aside0.mk (blk_below (g := gb221) (o := .cells #[.int .i64 t215, .int .i64 t216, .int .i64 t217, .int .i64 t218, .int .i64 t219] 24 (0, 0)) (by (with_reducible repeat (first | refine blk_drewN ?_ _ | refine blk_drew ?_ | refine blk_alloc ?_ _)); refine blk_far ?_ NB221_228.out _; (with_reducible repeat (first | refine blk_drewN ?_ _ | refine blk_drew ?_ | refine blk_alloc ?_ _)); refine blk_far ?_ NB221_228.out _; (with_reducible repeat (first | refine blk_drewN ?_ _ | refine blk_drew ?_ | refine blk_alloc ?_ _)); refine blk_far ?_ NB221_228.out _; (with_reducible repeat (first | refine blk_drewN ?_ _ | refine blk_drew ?_ | refine blk_alloc ?_ _)); refine blk_far ?_ NB221_228.out _; (with_reducible repeat (first | refine blk_drewN ?_ _ | refine blk_drew ?_ | refine blk_alloc ?_ _)); refine blk_far ?_ NB221_228.out _; (with_reducible repeat (first | refine blk_drewN ?_ _ | refine blk_drew ?_ | refine blk_alloc ?_ _)); exact BK221.out) hb); have n1_ := Aside0.mk (blk_below (g := gb228) (o := .cells #[.int .i64 t222, .int .i64 t223, .int .i64 t224, .int .i64 t225, .int .i64 t226] 24 (0, 0)) (by (with_reducible repeat (first | refine blk_drewN ?_ _ | refine blk_drew ?_ | refine blk_alloc ?_ _)); refine blk_put (cs := #[.int .i64 t222, .int .i64 t223, .int .i64 t224, .int .i64 t225, .int .i64 0]) ?_ 4 _ rfl; (with_reducible repeat (first | refine blk_drewN ?_ _ | refine blk_drew ?_ | refine blk_alloc ?_ _)); refine blk_put (cs := #[.int .i64 t222, .int .i64 t223, .int .i64 t224, .int .i64 0, .int .i64 0]) ?_ 3 _ rfl; (with_reducible repeat (first | refine blk_drewN ?_ _ | refine blk_drew ?_ | refine blk_alloc ?_ _)); refine blk_put (cs := #[.int .i64 t222, .int .i64 t223, .int .i64 0, .int .i64 0, .int .i64 0]) ?_ 2 _ rfl; (with_reducible repeat (first | refine blk_drewN ?_ _ | refine blk_drew ?_ | refine blk_alloc ?_ _)); refine blk_put (cs := #[.int .i64 t222, .int .i64 0, .int .i64 0, .int .i64 0, .int .i64 0]) ?_ 1 _ rfl; (with_reducible repeat (first | refine blk_drewN ?_ _ | refine blk_drew ?_ | refine blk_alloc ?_ _)); refine blk_put (cs := #[.int .i64 0, .int .i64 0, .int .i64 0, .int .i64 0, .int .i64 0]) ?_ 0 _ rfl; (with_reducible repeat (first | refine blk_drewN ?_ _ | refine blk_drew ?_ | refine blk_alloc ?_ _)); exact BK228.out) hb); have n2_ := Aside0.mk (below_step (by repeat (first | (with_reducible first | exact HB.out | apply below_alloc | apply pw_below_drewN | apply below_drew1 | refine below_set ?_ GE221.out | refine below_set ?_ GE228.out) | exact HB.out)) hb); clear BK221; clear BK228; clear HB; have BK221 := n0_; have BK228 := n1_; have HB := n2_; clear n0_ n1_ n2_; (try clear hb); (try clear hb2); (try clear hk); (try clear hi); have hcz25_0 : w24.cell? ⟨gb221, 0, none⟩ = some (.int .i64 t215) := (blk_cell BK221.out 0).trans rfl; have hcz25_1 : w24.cell? ⟨gb221, 1, none⟩ = some (.int .i64 t216) := (blk_cell BK221.out 1).trans rfl; have hcz25_2 : w24.cell? ⟨gb221, 2, none⟩ = some (.int .i64 t217) := (blk_cell BK221.out 2).trans rfl; have hcz25_3 : w24.cell? ⟨gb221, 3, none⟩ = some (.int .i64 t218) := (blk_cell BK221.out 3).trans rfl; have hcz25_4 : w24.cell? ⟨gb221, 4, none⟩ = some (.int .i64 t219) := (blk_cell BK221.out 4).trans rfl; have hfz25_0 := blk_frozen BK221.out 0; have hfz25_1 := blk_frozen BK221.out 1; have hfz25_2 := blk_frozen BK221.out 2; have hfz25_3 := blk_frozen BK221.out 3; have hfz25_4 := blk_frozen BK221.out 4; have hcz26_0 : w24.cell? ⟨gb228, 0, none⟩ = some (.int .i64 t222) := (blk_cell BK228.out 0).trans rfl; have hcz26_1 : w24.cell? ⟨gb228, 1, none⟩ = some (.int .i64 t223) := (blk_cell BK228.out 1).trans rfl; have hcz26_2 : w24.cell? ⟨gb228, 2, none⟩ = some (.int .i64 t224) := (blk_cell BK228.out 2).trans rfl; have hcz26_3 : w24.cell? ⟨gb228, 3, none⟩ = some (.int .i64 t225) := (blk_cell BK228.out 3).trans rfl; have hcz26_4 : w24.cell? ⟨gb228, 4, none⟩ = some (.int .i64 t226) := (blk_cell BK228.out 4).trans rfl; have hfz26_0 := blk_frozen BK228.out 0; have hfz26_1 := blk_frozen BK228.out 1; have hfz26_2 := blk_frozen BK228.out 2; have hfz26_3 := blk_frozen BK228.out 3; have hfz26_4 := blk_frozen BK228.out 4))
      go_ret
      exact ⟨by first | rfl | (simp [errW_none, errW_some] <;> rfl) | (simp [*, errW_none, errW_some] <;> rfl), by repeat (first | (with_reducible first | exact HB.out | apply below_alloc | apply pw_below_drewN | apply below_drew1 | refine below_set ?_ GE221.out | refine below_set ?_ GE228.out) | exact HB.out)⟩
  · replace c5 := Bool.eq_false_iff.mpr c5
    subst c5
    have H1 : (some false) = some r := by rw [if_neg (show ¬ (false = true) by decide)] at H; exact H
    clear H
    have H := H1
    clear H1
    obtain rfl := Option.some.inj H
    go_enter Try.func3, Try.ntmps3
    go_wp2_with (first | ((with_reducible refine gate_callee (f := 5) rfl ?_); refine goesL_ (some 9) rfl rfl Try.func5 (by kernel_rfl) rfl #[.int .u32 a0] rfl (by (try simp only [List.map_toArray, List.map_cons, List.map_nil]); first | done | rfl | (simp only [List.length_drop, List.length_take]; rfl)) ?_; (with_reducible refine (inst_Decode.calls k a0 t215 t216 t217 t218 t219 t220 _ A2.out).mono ?_); rintro e w27 ⟨rfl, hb⟩; refine ⟨_, rfl, ?_⟩; have n0_ := Aside0.mk (below_step (by repeat (first | (with_reducible first | exact HB.out | apply below_alloc | apply pw_below_drewN | apply below_drew1) | exact HB.out)) hb); clear HB; have HB := n0_; clear n0_; (try clear hb); (try clear hb2); (try clear hk); (try clear hi)) | ((with_reducible refine gate_dst (N := 3) rfl ?_); refine box_event ?hg (N := 3) ?hd (cs := #[.int .i64 0, .int .i64 0, .int .i64 0, .int .i64 0, .int .i64 0]) (t := 24) ?hr ?_; (case hd => rfl); (case hg => rfl); (case hr => first | (go_simp; done) | (go_simp; rfl)); intro gb221 hg w28 hbox hb; have n0_ := Aside0.mk (below_step (by repeat (first | (with_reducible first | exact HB.out | apply below_alloc | apply pw_below_drewN | apply below_drew1) | exact HB.out)) hb); have n1_ := Aside0.mk (hbox); have n2_ := Aside0.mk ((by rw [hg]; exact (below_size (by repeat (first | (with_reducible first | exact HB.out | apply below_alloc | apply pw_below_drewN | apply below_drew1) | exact HB.out))) : w.heap.size ≤ gb221)); have n3_ := Aside0.mk ((by rw [hg]; exact (below_size (by repeat (first | (with_reducible first | exact HB.out | apply below_alloc | apply pw_below_drewN | apply below_drew1) | exact HB.out))) : w.heap.size ≤ gb221)); clear HB; have HB := n0_; have BK221 := n1_; have GW221 := n2_; have GE221 := n3_; clear n0_ n1_ n2_ n3_; clear hb hbox hg; have hcz29_0 : w28.cell? ⟨gb221, 0, none⟩ = some (.int .i64 0) := (blk_cell BK221.out 0).trans rfl; have hcz29_1 : w28.cell? ⟨gb221, 1, none⟩ = some (.int .i64 0) := (blk_cell BK221.out 1).trans rfl; have hcz29_2 : w28.cell? ⟨gb221, 2, none⟩ = some (.int .i64 0) := (blk_cell BK221.out 2).trans rfl; have hcz29_3 : w28.cell? ⟨gb221, 3, none⟩ = some (.int .i64 0) := (blk_cell BK221.out 3).trans rfl; have hcz29_4 : w28.cell? ⟨gb221, 4, none⟩ = some (.int .i64 0) := (blk_cell BK221.out 4).trans rfl; have hfz29_0 := blk_frozen BK221.out 0; have hfz29_1 := blk_frozen BK221.out 1; have hfz29_2 := blk_frozen BK221.out 2; have hfz29_3 := blk_frozen BK221.out 3; have hfz29_4 := blk_frozen BK221.out 4) | ((with_reducible refine gate_callee (f := 6) rfl ?_); refine goesL_ (some 14) rfl rfl Try.func6 (by kernel_rfl) rfl #[.int .u32 a0] rfl (by (try simp only [List.map_toArray, List.map_cons, List.map_nil]); first | done | rfl | (simp only [List.length_drop, List.length_take]; rfl)) ?_; (with_reducible refine (whetstoneref02_Decode.calls k a0 t222 t223 t224 t225 t226 t227 _ A3.out).mono ?_); rintro e w30 ⟨rfl, hb⟩; refine ⟨_, rfl, ?_⟩; have n0_ := Aside0.mk (blk_below (g := gb221) (o := .cells #[.int .i64 t215, .int .i64 t216, .int .i64 t217, .int .i64 t218, .int .i64 t219] 24 (0, 0)) (by (with_reducible repeat (first | refine blk_drewN ?_ _ | refine blk_drew ?_ | refine blk_alloc ?_ _)); refine blk_put (cs := #[.int .i64 t215, .int .i64 t216, .int .i64 t217, .int .i64 t218, .int .i64 0]) ?_ 4 _ rfl; (with_reducible repeat (first | refine blk_drewN ?_ _ | refine blk_drew ?_ | refine blk_alloc ?_ _)); refine blk_put (cs := #[.int .i64 t215, .int .i64 t216, .int .i64 t217, .int .i64 0, .int .i64 0]) ?_ 3 _ rfl; (with_reducible repeat (first | refine blk_drewN ?_ _ | refine blk_drew ?_ | refine blk_alloc ?_ _)); refine blk_put (cs := #[.int .i64 t215, .int .i64 t216, .int .i64 0, .int .i64 0, .int .i64 0]) ?_ 2 _ rfl; (with_reducible repeat (first | refine blk_drewN ?_ _ | refine blk_drew ?_ | refine blk_alloc ?_ _)); refine blk_put (cs := #[.int .i64 t215, .int .i64 0, .int .i64 0, .int .i64 0, .int .i64 0]) ?_ 1 _ rfl; (with_reducible repeat (first | refine blk_drewN ?_ _ | refine blk_drew ?_ | refine blk_alloc ?_ _)); refine blk_put (cs := #[.int .i64 0, .int .i64 0, .int .i64 0, .int .i64 0, .int .i64 0]) ?_ 0 _ rfl; (with_reducible repeat (first | refine blk_drewN ?_ _ | refine blk_drew ?_ | refine blk_alloc ?_ _)); exact BK221.out) hb); have n1_ := Aside0.mk (below_step (by repeat (first | (with_reducible first | exact HB.out | apply below_alloc | apply pw_below_drewN | apply below_drew1 | refine below_set ?_ GE221.out) | exact HB.out)) hb); clear BK221; clear HB; have BK221 := n0_; have HB := n1_; clear n0_ n1_; (try clear hb); (try clear hb2); (try clear hk); (try clear hi)) | ((with_reducible refine gate_dst (N := 5) rfl ?_); refine box_event ?hg (N := 5) ?hd (cs := #[.int .i64 0, .int .i64 0, .int .i64 0, .int .i64 0, .int .i64 0]) (t := 24) ?hr ?_; (case hd => rfl); (case hg => rfl); (case hr => first | (go_simp; done) | (go_simp; rfl)); intro gb228 hg w31 hbox hb; have n0_ := Aside0.mk (blk_below (g := gb221) (o := .cells #[.int .i64 t215, .int .i64 t216, .int .i64 t217, .int .i64 t218, .int .i64 t219] 24 (0, 0)) (by (with_reducible repeat (first | refine blk_drewN ?_ _ | refine blk_drew ?_ | refine blk_alloc ?_ _)); exact BK221.out) hb); have n1_ := Aside0.mk (below_step (by repeat (first | (with_reducible first | exact HB.out | apply below_alloc | apply pw_below_drewN | apply below_drew1 | refine below_set ?_ GE221.out) | exact HB.out)) hb); have n2_ := Aside0.mk (hbox); have n3_ := Aside0.mk ((by rw [hg]; exact (below_size (by repeat (first | (with_reducible first | exact HB.out | apply below_alloc | apply pw_below_drewN | apply below_drew1 | refine below_set ?_ GE221.out) | exact HB.out))) : w.heap.size ≤ gb228)); have n4_ := Aside0.mk ((by rw [hg]; exact (below_size (by repeat (first | (with_reducible first | exact HB.out | apply below_alloc | apply pw_below_drewN | apply below_drew1 | refine below_set ?_ GE221.out) | exact HB.out))) : w.heap.size ≤ gb228)); have n5_ := Aside0.mk ((by rw [hg]; exact Nat.ne_of_lt (blk_lt (g := gb221) (o := .cells #[.int .i64 t215, .int .i64 t216, .int .i64 t217, .int .i64 t218, .int .i64 t219] 24 (0, 0)) (by (with_reducible repeat (first | refine blk_drewN ?_ _ | refine blk_drew ?_ | refine blk_alloc ?_ _)); exact BK221.out)) : gb221 ≠ gb228)); have n6_ := Aside0.mk ((by rw [hg]; exact Nat.ne_of_gt (blk_lt (g := gb221) (o := .cells #[.int .i64 t215, .int .i64 t216, .int .i64 t217, .int .i64 t218, .int .i64 t219] 24 (0, 0)) (by (with_reducible repeat (first | refine blk_drewN ?_ _ | refine blk_drew ?_ | refine blk_alloc ?_ _)); exact BK221.out)) : gb228 ≠ gb221)); clear BK221; clear HB; have BK221 := n0_; have HB := n1_; have BK228 := n2_; have GW228 := n3_; have GE228 := n4_; have NB221_228 := n5_; have NB228_221 := n6_; clear n0_ n1_ n2_ n3_ n4_ n5_ n6_; clear hb hbox hg; have hnb32 := NB228_221.out; have hnc32 := NB221_228.out; have hcz33_0 : w31.cell? ⟨gb228, 0, none⟩ = some (.int .i64 0) := (blk_cell BK228.out 0).trans rfl; have hcz33_1 : w31.cell? ⟨gb228, 1, none⟩ = some (.int .i64 0) := (blk_cell BK228.out 1).trans rfl; have hcz33_2 : w31.cell? ⟨gb228, 2, none⟩ = some (.int .i64 0) := (blk_cell BK228.out 2).trans rfl; have hcz33_3 : w31.cell? ⟨gb228, 3, none⟩ = some (.int .i64 0) := (blk_cell BK228.out 3).trans rfl; have hcz33_4 : w31.cell? ⟨gb228, 4, none⟩ = some (.int .i64 0) := (blk_cell BK228.out 4).trans rfl; have hfz33_0 := blk_frozen BK228.out 0; have hfz33_1 := blk_frozen BK228.out 1; have hfz33_2 := blk_frozen BK228.out 2; have hfz33_3 := blk_frozen BK228.out 3; have hfz33_4 := blk_frozen BK228.out 4) | ((with_reducible refine gate_callee (f := 7) rfl ?_); refine goesL_ (some 17) rfl rfl Try.func7 (by kernel_rfl) rfl #[] rfl (by (try simp only [List.map_toArray, List.map_cons, List.map_nil]); first | done | rfl | (simp only [List.length_drop, List.length_take]; rfl)) ?_; (with_reducible refine (whetstonelaw02_fixed.calls k  false _ A4.out).mono ?_); rintro e w34 ⟨rfl, hb⟩; refine ⟨_, rfl, ?_⟩; have n0_ := Aside0.mk (blk_below (g := gb221) (o := .cells #[.int .i64 t215, .int .i64 t216, .int .i64 t217, .int .i64 t218, .int .i64 t219] 24 (0, 0)) (by (with_reducible repeat (first | refine blk_drewN ?_ _ | refine blk_drew ?_ | refine blk_alloc ?_ _)); refine blk_far ?_ NB221_228.out _; (with_reducible repeat (first | refine blk_drewN ?_ _ | refine blk_drew ?_ | refine blk_alloc ?_ _)); refine blk_far ?_ NB221_228.out _; (with_reducible repeat (first | refine blk_drewN ?_ _ | refine blk_drew ?_ | refine blk_alloc ?_ _)); refine blk_far ?_ NB221_228.out _; (with_reducible repeat (first | refine blk_drewN ?_ _ | refine blk_drew ?_ | refine blk_alloc ?_ _)); refine blk_far ?_ NB221_228.out _; (with_reducible repeat (first | refine blk_drewN ?_ _ | refine blk_drew ?_ | refine blk_alloc ?_ _)); refine blk_far ?_ NB221_228.out _; (with_reducible repeat (first | refine blk_drewN ?_ _ | refine blk_drew ?_ | refine blk_alloc ?_ _)); exact BK221.out) hb); have n1_ := Aside0.mk (blk_below (g := gb228) (o := .cells #[.int .i64 t222, .int .i64 t223, .int .i64 t224, .int .i64 t225, .int .i64 t226] 24 (0, 0)) (by (with_reducible repeat (first | refine blk_drewN ?_ _ | refine blk_drew ?_ | refine blk_alloc ?_ _)); refine blk_put (cs := #[.int .i64 t222, .int .i64 t223, .int .i64 t224, .int .i64 t225, .int .i64 0]) ?_ 4 _ rfl; (with_reducible repeat (first | refine blk_drewN ?_ _ | refine blk_drew ?_ | refine blk_alloc ?_ _)); refine blk_put (cs := #[.int .i64 t222, .int .i64 t223, .int .i64 t224, .int .i64 0, .int .i64 0]) ?_ 3 _ rfl; (with_reducible repeat (first | refine blk_drewN ?_ _ | refine blk_drew ?_ | refine blk_alloc ?_ _)); refine blk_put (cs := #[.int .i64 t222, .int .i64 t223, .int .i64 0, .int .i64 0, .int .i64 0]) ?_ 2 _ rfl; (with_reducible repeat (first | refine blk_drewN ?_ _ | refine blk_drew ?_ | refine blk_alloc ?_ _)); refine blk_put (cs := #[.int .i64 t222, .int .i64 0, .int .i64 0, .int .i64 0, .int .i64 0]) ?_ 1 _ rfl; (with_reducible repeat (first | refine blk_drewN ?_ _ | refine blk_drew ?_ | refine blk_alloc ?_ _)); refine blk_put (cs := #[.int .i64 0, .int .i64 0, .int .i64 0, .int .i64 0, .int .i64 0]) ?_ 0 _ rfl; (with_reducible repeat (first | refine blk_drewN ?_ _ | refine blk_drew ?_ | refine blk_alloc ?_ _)); exact BK228.out) hb); have n2_ := Aside0.mk (below_step (by repeat (first | (with_reducible first | exact HB.out | apply below_alloc | apply pw_below_drewN | apply below_drew1 | refine below_set ?_ GE221.out | refine below_set ?_ GE228.out) | exact HB.out)) hb); clear BK221; clear BK228; clear HB; have BK221 := n0_; have BK228 := n1_; have HB := n2_; clear n0_ n1_ n2_; (try clear hb); (try clear hb2); (try clear hk); (try clear hi)))
    go_ret
    exact ⟨by first | rfl | (simp [errW_none, errW_some] <;> rfl) | (simp [*, errW_none, errW_some] <;> rfl), by repeat (first | (with_reducible first | exact HB.out | apply below_alloc | apply pw_below_drewN | apply below_drew1 | refine below_set ?_ GE221.out | refine below_set ?_ GE228.out) | exact HB.out)⟩

/-- THE ONE PURE STATEMENT of whetstonelaw02_InstDecodes: yours. -/
def whetstonelaw02_InstDecodes.Pure : Prop := ∀ (a0 : Int), (Lit.int .u32 a0).wf = true → ∃ k, whetstonelaw02_InstDecodes.f k a0 = some true
theorem whetstonelaw02_InstDecodes.walk (P : whetstonelaw02_InstDecodes.Pure) (a0 : Int) (w : World) (w0 : (Lit.int .u32 a0).wf = true) :
    Calls Try.prog 3 #[.int .u32 a0] w fun e w' => e = .returned (.bool true) ∧ Below w.heap.size w w' := by
  obtain ⟨k, h⟩ := P a0 w0
  refine (whetstonelaw02_InstDecodes.calls k a0 true w h).mono ?_
  rintro e w' ⟨rfl, hd⟩
  exact ⟨rfl, hd⟩

end Go.Proofs.Ytegpiempnjbfjaa.Q
