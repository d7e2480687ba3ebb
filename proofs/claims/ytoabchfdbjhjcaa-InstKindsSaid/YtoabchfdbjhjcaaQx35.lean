-- Written by this session's own driver (wip/tools/ownprint.py) over the kit's print: walks of the translated Go, each function once.
import Derived.Test.YtoabchfdbjhjcaaQx0
import Derived.Test.YtoabchfdbjhjcaaQx2
import Derived.Test.YtoabchfdbjhjcaaQx10
import Derived.Test.YtoabchfdbjhjcaaQx33
import Derived.Test.YtoabchfdbjhjcaaQx34
namespace Go.Proofs.Ytoabchfdbjhjcaa.Q
open Go.RowKit Go.Proofs.YtoabchfdbjhjcaaW.PrintWords Go.Proofs.YtoabchfdbjhjcaaW.PrintLast Go.Proofs.YtoabchfdbjhjcaaW.PrintMore
attribute [local go_sem] max2_int min2_int max_two min_two max_three min_three max_four min_four   -- for this text's walks alone
attribute [local go_sem] imax_u32 imax_u8 isg_u32 isg_u8
set_option linter.unusedVariables false
set_option linter.unusedSimpArgs false

/-! ### inst_Encode: function 35 -/
def inst_Encode.f (k : Nat) (a0 a1 a2 a3 a4 : Int) : Option (Int × Int) :=
  (inst_Right.f k a0 a1 a2 a3 a4).bind fun t => if t = true then (if a0 = 45 then some (115, 0) else (if a0 = 46 then some (1048691, 0) else
    (if 0 ≤ a0 ∧ a0 < 47 then (inst_told.f k (kGet a0.toNat).1 (a4 % 4294967296)).bind fun tt => (inst_has.f k (kGet a0.toNat).1).bind fun hh =>
      (some (Go.bits .or .u32 (Go.bits .or .u32 (Go.bits .or .u32 (Go.bits .or .u32 (kGet a0.toNat).2.1 (((kGet a0.toNat).2.2.1 * 4096) % 4294967296)) (((kGet a0.toNat).2.2.2 * 33554432) % 4294967296)) (((a2 % 4294967296) * 32768) % 4294967296)) tt)).bind fun w0 =>
      (some (if hh.1 = true then Go.bits .or .u32 w0 (((a1 % 4294967296) * 128) % 4294967296) else w0)).bind fun w1 =>
      some (if hh.2.2 = true then Go.bits .or .u32 w1 (((a3 % 4294967296) * 1048576) % 4294967296) else w1, 0) else none))) else some (0, 20)
theorem inst_Encode.mono : ∀ a0 a1 a2 a3 a4 k, LeO (inst_Encode.f k a0 a1 a2 a3 a4) (inst_Encode.f (k + 1) a0 a1 a2 a3 a4) := by
  intro a0 a1 a2 a3 a4 k
  unfold inst_Encode.f
  repeat' first
      | (with_reducible exact inst_Right.mono _ _ _ _ _ _)
      | (with_reducible exact inst_told.mono _ _ _)
      | (with_reducible exact inst_has.mono _ _)
      | (with_reducible exact LeO.refl _)
      | (with_reducible refine LeO.ite ?_ ?_)
      | (with_reducible refine LeO.bind ?_ (fun _ => ?_))
theorem row_cells (w : World) (g : Nat) (cs : Array Value) (t : TypeId) (j : Nat) (h : w.heap[g]? = some (.cells cs t (0, 0))) : w.cell? ⟨g, j, none⟩ = cs[j]? := cell_of_row w g j cs t (0, 0) h
theorem heap_at (w : World) (o : Obj) : (w.alloc o).heap[w.heap.size]? = some o := heap_alloc_new w o
theorem keep_obj {w w1 : World} {O : Obj} (hb : Below (w.alloc O).heap.size (w.alloc O) w1) : w1.heap[w.heap.size]? = some O :=
  (hb.block _ (by show w.heap.size < (w.heap.push O).size; simp)).trans (heap_alloc_new w O)
theorem below_of_alloc {w w1 : World} {O : Obj} (hb : Below (w.alloc O).heap.size (w.alloc O) w1) : Below w.heap.size w w1 :=
  below_then (below_alloc (Below.refl _ _) O) (by show w.heap.size ≤ (w.heap.push O).size; simp) hb
theorem alloc_keep {w : World} {O : Obj} {a : Addr} {v : Value} (h : w.cell? a = some v) : (w.alloc O).cell? a = some v := (World.cell?_alloc_lt _ _ _ (World.block_lt_of_cell? w a h)).trans h
theorem keep4 {w : World} {g h : Nat} {O : Option Obj} {a b c d : Value} (hn : h ≠ g) (ho : w.heap[h]? = O) : ((((w.setCell ⟨g, 0, none⟩ a).setCell ⟨g, 1, none⟩ b).setCell ⟨g, 2, none⟩ c).setCell ⟨g, 3, none⟩ d).heap[h]? = O := by
  rw [heap_setCell_other _ _ _ _ hn, heap_setCell_other _ _ _ _ hn, heap_setCell_other _ _ _ _ hn, heap_setCell_other _ _ _ _ hn]; exact ho
theorem below4 {w W : World} {g : Nat} {a b c d : Value} (h : Below w.heap.size w W) (hg : w.heap.size ≤ g) : Below w.heap.size w ((((W.setCell ⟨g, 0, none⟩ a).setCell ⟨g, 1, none⟩ b).setCell ⟨g, 2, none⟩ c).setCell ⟨g, 3, none⟩ d) :=
  below_set (below_set (below_set (below_set h hg) hg) hg) hg
theorem lt_of_heap {w : World} {g : Nat} {O : Obj} (h : w.heap[g]? = some O) : g < w.heap.size := (Array.getElem?_eq_some_iff.1 h).1
set_option maxHeartbeats 3200000 in
set_option maxRecDepth 100000 in
theorem encode_row (k : Nat) (a0 a1 a2 a3 a4 : Int) (w : World) (n : Nat) (e0 : a0 = (n : Int)) (hn : n < 45) (HR : Aside0 (inst_Right.f k a0 a1 a2 a3 a4 = some true)) (a b c d tt w0 : Int) (h1 h2 h3 : Bool)
    (hk : kGet n = (a, b, c, d)) (HT : Aside0 (inst_told.f k a (a4 % 4294967296) = some tt)) (HH : Aside0 (inst_has.f k a = some (h1, h2, h3)))
    (HW : Aside0 (Go.bits .or .u32 (Go.bits .or .u32 (Go.bits .or .u32 (Go.bits .or .u32 b ((c * 4096) % 4294967296)) ((d * 33554432) % 4294967296)) (((a2 % 4294967296) * 32768) % 4294967296)) tt = w0)) :
    Calls Try.prog 35 #[.agg #[.int .i64 a0, .int .i64 a1, .int .i64 a2, .int .i64 a3, .int .i64 a4]] w fun e w' =>
      e = .returned (.tuple #[.int .u32 (if h3 = true then Go.bits .or .u32 (if h1 = true then Go.bits .or .u32 w0 (((a1 % 4294967296) * 128) % 4294967296) else w0) (((a3 % 4294967296) * 1048576) % 4294967296) else (if h1 = true then Go.bits .or .u32 w0 (((a1 % 4294967296) * 128) % 4294967296) else w0)), .int .i64 0]) ∧ Below w.heap.size w w' := by
  have hu24 := Try.underlying24
  have hi0 := kinds_index n (by omega)
  rw [hk] at hi0
  have hi : ∀ w : World, (Instr.index 108 (.agg kCells) (.int .i64 a0)).run Try.prog w = .ok (.agg #[.int .u8 a, .int .u32 b, .int .u32 c, .int .u32 d]) w := by rw [e0]; exact hi0
  clear hi0 hk
  have n45 : (a0 == 45) = false := beq_eq_false_iff_ne.mpr (by omega)
  have n46 : (a0 == 46) = false := beq_eq_false_iff_ne.mpr (by omega)
  clear e0 hn
  go_enter Try.func35, Try.ntmps35
  go_upto_region 8 with (go_at_call 37; (with_reducible refine (inst_Right.calls k a0 a1 a2 a3 a4 true _ HR.out).mono ?_); rintro e w1 ⟨rfl, hb1⟩; have HO := Aside0.mk (keep_obj hb1); have HB := Aside0.mk (below_of_alloc hb1); clear hb1; have hx0 : w1.cell? ⟨w.heap.size, 0, none⟩ = some (.int .i64 a0) := cell_of_row _ _ _ _ _ _ HO.out)
  go_outline
  go_cut [4] (fun v4 wc => ∃ g : Nat, v4 = .pointer (some ⟨g, 0, none⟩) ∧ Aside0 (w.heap.size < g) ∧ Aside0 (wc.heap[g]? = some (.cells #[.int .u8 a, .int .u32 b, .int .u32 c, .int .u32 d] 107 (0, 0))) ∧ Aside0 (wc.heap[w.heap.size]? = some (.cells #[.int .i64 a0, .int .i64 a1, .int .i64 a2, .int .i64 a3, .int .i64 a4] 24 (0, 0))) ∧ Aside0 (Below w.heap.size w wc))
  case first =>
    trace "first"
    have hlt := lt_of_heap HO.out
    have hxa : ∀ O, (w1.alloc O).cell? ⟨w.heap.size, 0, none⟩ = some (.int .i64 a0) := fun O => alloc_keep hx0
    go_region_with (go_at_call 81; refine (kinds_calls _).mono ?_; rintro e w2 ⟨rfl, hb2⟩; have hx2 : w2.cell? ⟨w.heap.size, 0, none⟩ = some (.int .i64 a0) := (hb2.cell (p := ⟨w.heap.size, 0, none⟩) (by simp; omega)).trans (by first | exact hx0 | exact alloc_keep hx0); have hxb : ∀ O, (w2.alloc O).cell? ⟨w.heap.size, 0, none⟩ = some (.int .i64 a0) := fun O => alloc_keep hx2; try (have HZ : w2.heap[w1.heap.size]? = some (.cells #[.int .u8 0, .int .u32 0, .int .u32 0, .int .u32 0] 107 (0, 0)) := (hb2.block _ (by show w1.heap.size < (w1.heap.push _).size; simp)).trans (heap_alloc_new w1 _); have z0 : w2.cell? ⟨w1.heap.size, 0, none⟩ = some (.int .u8 0) := cell_of_row _ _ _ _ _ _ HZ; have z1 : w2.cell? ⟨w1.heap.size, 1, none⟩ = some (.int .u32 0) := cell_of_row _ _ _ _ _ _ HZ; have z2 : w2.cell? ⟨w1.heap.size, 2, none⟩ = some (.int .u32 0) := cell_of_row _ _ _ _ _ _ HZ; have z3 : w2.cell? ⟨w1.heap.size, 3, none⟩ = some (.int .u32 0) := cell_of_row _ _ _ _ _ _ HZ; have y0 := frozen_of_row _ _ 0 _ _ HZ; have y1 := frozen_of_row _ _ 1 _ _ HZ; have y2 := frozen_of_row _ _ 2 _ _ HZ; have y3 := frozen_of_row _ _ 3 _ _ HZ; have HZ' := Aside0.mk HZ; clear HZ))
    all_goals (try go_wp2_with fail)
    all_goals go_meet
    all_goals (case rel => first
      | exact ⟨_, rfl, ⟨Nat.lt_of_lt_of_le hlt hb2.size⟩, ⟨heap_at w2 _⟩, ⟨(heap_alloc_old w2 _ (Nat.lt_of_lt_of_le hlt hb2.size)).trans ((hb2.block _ hlt).trans HO.out)⟩, ⟨below_alloc (below_then (below_drew HB.out) (Nat.le_of_lt hlt) hb2) _⟩⟩
      | exact ⟨_, rfl, ⟨hlt⟩, ⟨blk_set (blk_set (blk_set (blk_set HZ'.out 0 _) 1 _) 2 _) 3 _⟩, ⟨keep4 (Nat.ne_of_lt hlt) ((hb2.block _ (by show w.heap.size < (w1.heap.push _).size; simp; omega)).trans ((heap_alloc_old w1 _ hlt).trans HO.out))⟩, ⟨below4 (below_then (below_drew (below_alloc HB.out _)) (by show w.heap.size ≤ (w1.heap.push _).size; simp; omega) hb2) (Nat.le_of_lt hlt)⟩⟩
      | (trace_state; sorry))
  case rest =>
    obtain ⟨g, rfl, hg, HG, HO2, HB2⟩ := hcut
    clear hx0 HO HB
    have r0 : wc.cell? ⟨g, 0, none⟩ = some (.int .u8 a) := cell_of_row _ _ _ _ _ _ HG.out
    have r1 : wc.cell? ⟨g, 1, none⟩ = some (.int .u32 b) := cell_of_row _ _ _ _ _ _ HG.out
    have r2 : wc.cell? ⟨g, 2, none⟩ = some (.int .u32 c) := cell_of_row _ _ _ _ _ _ HG.out
    have r3 : wc.cell? ⟨g, 3, none⟩ = some (.int .u32 d) := cell_of_row _ _ _ _ _ _ HG.out
    have i2 : wc.cell? ⟨w.heap.size, 2, none⟩ = some (.int .i64 a2) := cell_of_row _ _ _ _ _ _ HO2.out
    have i4 : wc.cell? ⟨w.heap.size, 4, none⟩ = some (.int .i64 a4) := cell_of_row _ _ _ _ _ _ HO2.out
    have lg := Aside0.mk (lt_of_heap HG.out)
    have lo := Aside0.mk (lt_of_heap HO2.out)
    have HT2 : Aside0 (inst_told.f k a (IntKind.u32.wrap a4) = some tt) := by rw [IntKind.wrap_u32]; exact HT
    try go_wp2_with fail
    go_region_held3 (fun w' => w'.cell? ⟨g, 0, none⟩ = some (.int .u8 a) ∧ w'.cell? ⟨g, 1, none⟩ = some (.int .u32 b) ∧ w'.cell? ⟨g, 2, none⟩ = some (.int .u32 c) ∧ w'.cell? ⟨g, 3, none⟩ = some (.int .u32 d) ∧ w'.cell? ⟨w.heap.size, 2, none⟩ = some (.int .i64 a2) ∧ w'.cell? ⟨w.heap.size, 4, none⟩ = some (.int .i64 a4)) (first | exact ⟨r0, r1, r2, r3, i2, i4⟩ | (exact ⟨(hb3.cell (p := ⟨g, 0, none⟩) lg.out).trans r0, (hb3.cell (p := ⟨g, 1, none⟩) lg.out).trans r1, (hb3.cell (p := ⟨g, 2, none⟩) lg.out).trans r2, (hb3.cell (p := ⟨g, 3, none⟩) lg.out).trans r3, (hb3.cell (p := ⟨w.heap.size, 2, none⟩) lo.out).trans i2, (hb3.cell (p := ⟨w.heap.size, 4, none⟩) lo.out).trans i4⟩)) ((go_at_call 87; (with_reducible refine (inst_told.calls k a (IntKind.u32.wrap a4) tt _ HT2.out).mono ?_); rintro e w3 ⟨rfl, hb3⟩))
    trace "region 9"
    have HG3 := Aside0.mk ((hb3.block _ lg.out).trans HG.out)
    have HO3 := Aside0.mk ((hb3.block _ lo.out).trans HO2.out)
    have HB3 := Aside0.mk (below_then (below_drew HB2.out) (Nat.le_of_lt lo.out) hb3)
    clear r0 r1 r2 r3 i2 i4 hb3 HG HO2 HB2 lg lo
    have r0 : w3.cell? ⟨g, 0, none⟩ = some (.int .u8 a) := cell_of_row _ _ _ _ _ _ HG3.out
    have i1 : w3.cell? ⟨w.heap.size, 1, none⟩ = some (.int .i64 a1) := cell_of_row _ _ _ _ _ _ HO3.out
    have i3 : w3.cell? ⟨w.heap.size, 3, none⟩ = some (.int .i64 a3) := cell_of_row _ _ _ _ _ _ HO3.out
    go_wp2_with (go_at_call 84; (with_reducible refine (inst_has.calls k a h1 h2 h3 _ HH.out).mono ?_); rintro e w' ⟨rfl, ⟨nd, rfl⟩⟩)
    all_goals go_ret2
    all_goals exact ⟨by rw [← HW.out]; first | rfl | (simp [*]; done), by first | exact pw_below_drewN HB3.out _ | exact HB3.out⟩
set_option maxHeartbeats 1600000 in
set_option maxRecDepth 100000 in
theorem inst_Encode.calls (k : Nat) (a0 a1 a2 a3 a4 : Int) (r1 r2 : Int) (w : World) (h : inst_Encode.f k a0 a1 a2 a3 a4 = some (r1, r2)) :
    Calls Try.prog 35 #[.agg #[.int .i64 a0, .int .i64 a1, .int .i64 a2, .int .i64 a3, .int .i64 a4]] w fun e w' => e = .returned (.tuple #[.int .u32 r1, .int .i64 r2]) ∧ Below w.heap.size w w' := by
  have hu24 := Try.underlying24
  unfold inst_Encode.f at h
  obtain ⟨t, A1, h⟩ := Option.bind_eq_some_iff.mp h
  have HR := Aside0.mk A1
  clear A1
  cases t with
  | false =>
    rw [if_neg (by decide)] at h
    simp only [Option.some.injEq, Prod.mk.injEq] at h
    obtain ⟨rfl, rfl⟩ := h
    go_enter Try.func35, Try.ntmps35
    go_wp2_with (go_at_call 37; (with_reducible refine (inst_Right.calls k a0 a1 a2 a3 a4 false _ HR.out).mono ?_); rintro e w1 ⟨rfl, hb1⟩; have HB := Aside0.mk (below_of_alloc hb1); clear hb1)
    go_ret2
    exact ⟨rfl, HB.out⟩
  | true =>
    rw [if_pos rfl] at h
    by_cases c1 : a0 = 45
    · rw [if_pos c1] at h
      simp only [Option.some.injEq, Prod.mk.injEq] at h
      obtain ⟨rfl, rfl⟩ := h
      subst c1
      go_enter Try.func35, Try.ntmps35
      go_wp2_with (go_at_call 37; (with_reducible refine (inst_Right.calls k 45 a1 a2 a3 a4 true _ HR.out).mono ?_); rintro e w1 ⟨rfl, hb1⟩; have HO := Aside0.mk (keep_obj hb1); have HB := Aside0.mk (below_of_alloc hb1); clear hb1; have hx0 : w1.cell? ⟨w.heap.size, 0, none⟩ = some (.int .i64 45) := cell_of_row _ _ _ _ _ _ HO.out)
      go_ret2
      exact ⟨rfl, HB.out⟩
    rw [if_neg c1] at h
    by_cases c2 : a0 = 46
    · rw [if_pos c2] at h
      simp only [Option.some.injEq, Prod.mk.injEq] at h
      obtain ⟨rfl, rfl⟩ := h
      subst c2
      clear c1
      go_enter Try.func35, Try.ntmps35
      go_wp2_with (go_at_call 37; (with_reducible refine (inst_Right.calls k 46 a1 a2 a3 a4 true _ HR.out).mono ?_); rintro e w1 ⟨rfl, hb1⟩; have HO := Aside0.mk (keep_obj hb1); have HB := Aside0.mk (below_of_alloc hb1); clear hb1; have hx0 : w1.cell? ⟨w.heap.size, 0, none⟩ = some (.int .i64 46) := cell_of_row _ _ _ _ _ _ HO.out)
      go_ret2
      exact ⟨rfl, HB.out⟩
    rw [if_neg c2] at h
    by_cases c3 : 0 ≤ a0 ∧ a0 < 47
    · rw [if_pos c3] at h
      obtain ⟨n, hn⟩ := Int.eq_ofNat_of_zero_le c3.1
      rw [show a0.toNat = n by omega] at h
      obtain ⟨a, b, c, d, hk⟩ := kGet_some n
      rw [hk] at h
      obtain ⟨tt, A2, h⟩ := Option.bind_eq_some_iff.mp h
      obtain ⟨⟨h1, h2, h3⟩, A3, h⟩ := Option.bind_eq_some_iff.mp h
      obtain ⟨w0, A4, h⟩ := Option.bind_eq_some_iff.mp h
      obtain ⟨w1, A5, h⟩ := Option.bind_eq_some_iff.mp h
      have A4 := Option.some.inj A4
      have A5 := Option.some.inj A5
      subst A5
      simp only [Option.some.injEq, Prod.mk.injEq] at h
      obtain ⟨rfl, rfl⟩ := h
      exact encode_row k a0 a1 a2 a3 a4 w n hn (by omega) HR a b c d tt w0 h1 h2 h3 hk ⟨A2⟩ ⟨A3⟩ ⟨A4⟩
    · rw [if_neg c3] at h
      cases h

end Go.Proofs.Ytoabchfdbjhjcaa.Q
