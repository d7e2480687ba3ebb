import Derived.Test.YtcjbdfhofpfooaaZQx0
import Derived.Test.YtcjbdfhofpfooaaZQx7
import Derived.Test.YtcjbdfhofpfooaaZQx8
import Derived.Test.YtcjbdfhofpfooaaZPWNone
import Derived.LoopTactic
import Derived.Deep.LoopGhost
import Derived.IntWalk
import Derived.WalkKit
import Derived.Outline
namespace Go.Proofs.Ytcjbdfhofpfooaa.Q
open Go.RowKit Go.Proofs.YtcjbdfhofpfooaaW.PrintWords Go.Proofs.YtcjbdfhofpfooaaW.PrintLast Go.Proofs.YtcjbdfhofpfooaaW.PrintMore
set_option linter.unusedVariables false
set_option linter.unusedSimpArgs false
attribute [local go_sem] max2_int min2_int max_two min_two max_three min_three max_four min_four
attribute [local go_sem] imax_u32 imax_u8 isg_u32 isg_u8
theorem twice_vals (L0 L1 L2 : List Int) (i k : Nat) (hc : chk L0 L1 L2 2 = 0) (hi : i < (ins L0 L1 L2 2).length) (hk : k < (ins L0 L1 L2 2).length) :
    runR L0 L1 L2 2 ((1 + i : Nat) : Int) = ([(ins L0 L1 L2 2).getD i default], 0) ∧ runR L0 L1 L2 2 ((1 + (ins L0 L1 L2 2).length + i * (ins L0 L1 L2 2).length + k : Nat) : Int) = ([(ins L0 L1 L2 2).getD i default, (ins L0 L1 L2 2).getD k default], 0) := by
  obtain ⟨N, hN⟩ : ∃ N, N = (ins L0 L1 L2 2).length := ⟨_, rfl⟩
  have e0 : cs N 0 = 0 := rfl
  have e1 : cs N 1 = 1 := by simp [cs]
  have e2 : cs N 2 = 1 + N := by simp [cs]
  have e3 : cs N 3 = 1 + N + N * N := by simp [cs, Nat.pow_succ]
  have hik : i * N + k < N * N := by
    have : i * N + N ≤ N * N := by rw [← Nat.succ_mul]; exact Nat.mul_le_mul_right _ (by omega)
    omega
  constructor
  · obtain ⟨j, r, _, h1, h2, h3, h4⟩ := runR_in L0 L1 L2 2 ((1 + i : Nat) : Int) hc (by omega) (by
      show ((1 + i : Nat) : Int) < ((cs (ins L0 L1 L2 2).length 3 : Nat) : Int)
      rw [← hN, e3]; omega)
    rw [← hN] at h2 h3
    rw [h4]
    match j, h1 with
    | 0, _ => rw [e0] at h3; simp at h2; omega
    | 1, _ =>
      rw [e1] at h3
      obtain rfl : r = i := by omega
      rw [← hN] at hi
      simp only [runL, List.range_succ, List.range_zero, List.nil_append, List.map_cons, List.map_nil, ← hN, Nat.sub_self, Nat.pow_zero, Nat.div_one, Nat.mod_eq_of_lt hi]
    | 2, _ => rw [e2] at h3; omega
    | j + 3, h => simp at h
  · obtain ⟨j, r, _, h1, h2, h3, h4⟩ := runR_in L0 L1 L2 2 ((1 + (ins L0 L1 L2 2).length + i * (ins L0 L1 L2 2).length + k : Nat) : Int) hc (by omega) (by
      show ((1 + (ins L0 L1 L2 2).length + i * (ins L0 L1 L2 2).length + k : Nat) : Int) < ((cs (ins L0 L1 L2 2).length 3 : Nat) : Int)
      rw [← hN, e3]; omega)
    rw [← hN] at h2 h3
    rw [h4]
    rw [← hN] at hi hk
    match j, h1 with
    | 0, _ => rw [e0] at h3; simp at h2; omega
    | 1, _ =>
      rw [e1] at h3
      simp at h2
      omega
    | 2, _ =>
      rw [e2] at h3
      obtain rfl : r = i * N + k := by omega
      have d1 : (i * N + k) / N = i := by rw [Nat.add_comm, Nat.add_mul_div_right _ _ (by omega), Nat.div_eq_of_lt hk, Nat.zero_add]
      have d2 : (i * N + k) % N = k := by rw [Nat.add_comm, Nat.add_mul_mod_self_right, Nat.mod_eq_of_lt hk]
      have q1 : 2 - 1 - 0 = 1 := rfl
      have q2 : 2 - 1 - 1 = 0 := rfl
      simp only [runL, List.range_succ, List.range_zero, List.nil_append, List.cons_append, List.map_cons, List.map_nil, ← hN, q1, q2, Nat.pow_zero, Nat.div_one, Nat.pow_one, d1, d2, Nat.mod_eq_of_lt hi]
    | j + 3, h => simp at h
theorem sub_at {w : World} {ad : Addr} {c i : Nat} {l : List Gm.In} (h : Kd.C k25 w (some ad) l.length (l.map toS)) (hi : i < l.length) (hc : l.length ≤ c) : Kd.C k25 w (some (ad.add (i * 5))) 1 ([l.getD i default].map toS) := by
  have e : l.length = (l.map toS).length := (List.length_map _).symm
  rw [e] at h hi hc
  have h2 := Kd.C_drop (m := i) (c := c) h (by omega) hc
  rw [if_neg (by omega)] at h2
  have h3 := Kd.C_take (m := 1) h2 (by rw [List.length_drop]; omega)
  have e2 : ((l.map toS).drop i).take 1 = [l.getD i default].map toS := by
    rw [List.drop_eq_getElem_cons hi, List.take_succ_cons, List.take_zero, List.getElem_map, List.getD_eq_getElem?_getD, List.getElem?_eq_getElem (by rw [List.length_map] at hi; exact hi)]
    rfl
  rw [e2] at h3
  exact h3
structure At5 (w : World) (p : Addr) (x : Gm.In) : Prop where
  h0 : w.cell? p = some (.int .i64 x.op)
  h1 : w.cell? ⟨p.block, p.off + 1, none⟩ = some (.int .i64 x.rd)
  h2 : w.cell? ⟨p.block, p.off + 2, none⟩ = some (.int .i64 x.a)
  h3 : w.cell? ⟨p.block, p.off + 3, none⟩ = some (.int .i64 x.b)
  h4 : w.cell? ⟨p.block, p.off + 4, none⟩ = some (.int .i64 x.m)
theorem at5_of {w : World} {ad : Addr} {l : List Gm.In} {n : Nat} (h : Kd.C k25 w (some ad) n (l.map toS)) (i : Nat) (hi : i < n) (hn : n = l.length) : At5 w (ad.add (i * 5)) (l.getD i default) := by
  obtain ⟨ad', e, a0, a1, a2, a3, a4⟩ := at_T25 h (i : Int) (by omega) (by omega)
  cases e
  rw [toS_at l i (by omega)] at a0 a1 a2 a3 a4
  exact ⟨a0, a1, a2, a3, a4⟩
theorem At5.below {w w' : World} {p : Addr} {x : Gm.In} (h : At5 w p x) (hb : Below w.heap.size w w') : At5 w' p x :=
  ⟨(hb.cell (World.block_lt_of_cell? w _ h.h0)).trans h.h0, (hb.cell (World.block_lt_of_cell? w _ h.h1)).trans h.h1, (hb.cell (World.block_lt_of_cell? w _ h.h2)).trans h.h2, (hb.cell (World.block_lt_of_cell? w _ h.h3)).trans h.h3, (hb.cell (World.block_lt_of_cell? w _ h.h4)).trans h.h4⟩
set_option maxHeartbeats 8000000 in
set_option maxRecDepth 100000 in
theorem walk_GrammarTwice (A0 : Option Addr) (c0 : Nat) (l0 : List Int) (A1 : Option Addr) (c1 : Nat) (l1 : List Int) (A2 : Option Addr) (c2 : Nat) (l2 : List Int) (len na nb : Int) (W : World)
    (C0 : Kd.C (Kd.int .i64) W A0 l0.length l0) (b0 : l0.length ≤ c0) (m0 : c0 ≤ maxLen) (w0 : ∀ x ∈ l0, (Lit.int .i64 x).wf = true)
    (C1 : Kd.C (Kd.int .i64) W A1 l1.length l1) (b1 : l1.length ≤ c1) (m1 : c1 ≤ maxLen) (w1 : ∀ x ∈ l1, (Lit.int .i64 x).wf = true)
    (C2 : Kd.C (Kd.int .i64) W A2 l2.length l2) (b2 : l2.length ≤ c2) (m2 : c2 ≤ maxLen) (w2 : ∀ x ∈ l2, (Lit.int .i64 x).wf = true) (wl : (Lit.int .i64 len).wf = true) (wa : (Lit.int .i64 na).wf = true) (wb : (Lit.int .i64 nb).wf = true) :
    Calls Try.prog 9 #[.agg #[.slice A0 l0.length c0, .slice A1 l1.length c1, .slice A2 l2.length c2, .int .i64 len], .int .i64 na, .int .i64 nb] W fun e w' => e = .returned (.bool true) ∧ Below W.heap.size W w' := by
  have HG := Aside0.mk (⟨C0, b0, C1, b1, C2, b2⟩ : GrC W A0 A1 A2 c0 c1 c2 l0 l1 l2)
  have HM := Aside0.mk (And.intro m0 (And.intro m1 m2))
  have HN := Aside0.mk (And.intro (of_i64 wa) (of_i64 wb))
  clear C0 b0 m0 w0 C1 b1 m1 w1 C2 b2 m2 w2 wl wa wb
  go_enter Try.func9, Try.ntmps9
  go_wp2_with (go_at_call 16; refine Gm.hold_ ?_)
  intro _
  refine (bound_c HG.out HM.out len _).mono ?_
  rintro e w1 ⟨rfl, hb⟩
  have HL := Aside0.mk (HG.out.tk 6 5 6)
  have hs := tk_small l0 l1 l2
  have hX := (Bx.new W A0 A1 A2 l0.length l1.length l2.length c0 c1 c2 len).below hb
  generalize tk l0 6 = L0 at *
  generalize tk l1 5 = L1 at *
  generalize tk l2 6 = L2 at *
  have HB := Aside0.mk (below_set4 (below_step (below_alloc (Below.refl W.heap.size W) _) hb) (Nat.le_refl W.heap.size) (.slice A0 L0.length c0) (.slice A1 L1.length c1) (.slice A2 L2.length c2) (.int .i64 len))
  have HX := Aside0.mk (hX.set A0 A1 A2 L0.length L1.length L2.length c0 c1 c2 len)
  have HS := Aside0.mk hs
  clear HG HM hs hb
  obtain ⟨⟨k0, k1, k2, k3⟩, ⟨f0, f1, f2, f3⟩, hz⟩ := hX.cells
  clear hX
  go_wp2_with ((with_reducible refine gate_dst (N := 17) rfl ?_); refine Gm.hold_ ?_)
  intro _
  obtain ⟨W2, hW2⟩ : ∃ X, X = ((((w1.setCell ⟨W.heap.size, 0, none⟩ (Value.slice A0 L0.length c0)).setCell ⟨W.heap.size, 1, none⟩ (Value.slice A1 L1.length c1)).setCell ⟨W.heap.size, 2, none⟩ (Value.slice A2 L2.length c2)).setCell ⟨W.heap.size, 3, none⟩ (Value.int IntKind.i64 len)) := ⟨_, rfl⟩
  rw [← hW2] at HB HX ⊢
  clear hW2 k0 k1 k2 k3 f0 f1 f2 f3 hz
  obtain ⟨⟨k0, k1, k2, k3⟩, ⟨f0, f1, f2, f3⟩, hz⟩ := HX.out.cells
  go_wp2_with (go_at_call 19; refine Gm.hold_ ?_)
  intro _
  have hB := HB.out.setCell (p := ⟨W.heap.size, 3, none⟩) (Nat.le_refl W.heap.size) (.int .i64 2)
  have hX := HX.out.set3 2
  clear k0 k1 k2 k3 f0 f1 f2 f3 hz
  have hin := Insts_c (HL.out.below hB) (szL_small HS.out) L0.length L1.length L2.length 2 rfl rfl rfl
  have hrun := fun n hn w hg => Run_c (w := w) (A0 := A0) (A1 := A1) (A2 := A2) (c0 := c0) (c1 := c1) (c2 := c2) (l0 := L0) (l1 := L1) (l2 := L2) hg (szL_small HS.out) L0.length L1.length L2.length 2 n hn rfl rfl rfl
  have hN := ins_len L0 L1 L2 2 HS.out.1 HS.out.2.1 HS.out.2.2
  have htw := twice_vals L0 L1 L2
  obtain ⟨q, hq⟩ : ∃ q, q = chk L0 L1 L2 2 := ⟨_, rfl⟩
  obtain ⟨l, hl⟩ : ∃ l, l = ins L0 L1 L2 2 := ⟨_, rfl⟩
  rw [← hl] at hin hN htw
  rw [← hq] at hin htw
  have HRUN := Aside0.mk hrun
  have HT := Aside0.mk htw
  have HNL := Aside0.mk hN
  clear hrun htw hN hq hl
  by_cases hq : q = 0
  rotate_left
  · refine hin.mono ?_
    clear hin
    rintro e w3 ⟨Ai, ci, rfl, _, _, _, hb⟩
    have NB := Aside0.mk (below_step hB hb)
    clear HB HX hb hB hX
    have HB := NB
    clear NB
    have hu1 : (q == 0) = false := beq_eq_false_iff_ne.mpr hq
    have hu2 : (q != 0) = true := bne_iff_ne.mpr hq
    clear hq
    go_wp2_with (go_at_call 13; refine Gm.hold_ ?_)
    intro _
    refine (fixed_c _).mono ?_
    rintro e w6 ⟨rfl, hb⟩
    have NB := Aside0.mk (below_step HB.out hb)
    clear HB hb
    go_wp2
    go_ret
    exact ⟨rfl, NB.out⟩
  subst hq
  by_cases hl0 : l.length = 0
  · refine hin.mono ?_
    clear hin
    rintro e w3 ⟨Ai, ci, rfl, _, _, _, hb⟩
    have NB := Aside0.mk (below_step hB hb)
    clear HB HX hb hB hX
    have HB := NB
    clear NB
    rw [hl0]
    clear hl0
    go_wp2_with (go_at_call 13; refine Gm.hold_ ?_)
    intro _
    refine (fixed_c _).mono ?_
    rintro e w6 ⟨rfl, hb⟩
    have NB := Aside0.mk (below_step HB.out hb)
    clear HB hb
    go_wp2
    go_ret
    exact ⟨rfl, NB.out⟩
  refine hin.mono ?_
  clear hin
  rintro e w3 ⟨Ai, ci, rfl, hC, _, hk, hb⟩
  have HC := Aside0.mk hC
  have HK := Aside0.mk hk
  have NB := Aside0.mk (below_step hB hb)
  have NX := Aside0.mk (hX.below hb)
  clear HB HX hb hB hX hC hk
  have HB := NB
  have HX := NX
  clear NB NX
  obtain ⟨⟨k0, k1, k2, k3⟩, ⟨f0, f1, f2, f3⟩, hz⟩ := HX.out.cells
  have ea : Go.bits .and .i64 na 16777215 = na % 16777216 := and_i64 na HN.out.1 24 (by omega)
  have eb : Go.bits .and .i64 nb 16777215 = nb % 16777216 := and_i64 nb HN.out.2 24 (by omega)
  clear HN
  obtain ⟨N, hN⟩ : ∃ N, N = l.length := ⟨_, rfl⟩
  obtain ⟨p, hp⟩ : ∃ p : Nat, na % 16777216 = (p : Int) := ⟨(na % 16777216).toNat, by omega⟩
  obtain ⟨r, hr⟩ : ∃ r : Nat, nb % 16777216 = (r : Int) := ⟨(nb % 16777216).toNat, by omega⟩
  rw [hp] at ea
  rw [hr] at eb
  clear hp hr
  rw [← hN] at hl0 ⊢
  have n0 : ((N : Int) == 0) = false := beq_eq_false_iff_ne.mpr (by omega)
  have n1 : ¬ (N : Int) = 0 := by omega
  have HN0 := Aside0.mk hN
  clear hN hl0
  obtain ⟨i, hi⟩ : ∃ i, i = p % N := ⟨_, rfl⟩
  obtain ⟨k, hk⟩ : ∃ k, k = r % N := ⟨_, rfl⟩
  have ti : Int.tmod (p : Int) (N : Int) = (i : Int) := by rw [hi, ← Int.ofNat_tmod]
  have tk : Int.tmod (r : Int) (N : Int) = (k : Int) := by rw [hk, ← Int.ofNat_tmod]
  have hiN : i < N := by rw [hi]; exact Nat.mod_lt _ (by omega)
  have hkN : k < N := by rw [hk]; exact Nat.mod_lt _ (by omega)
  clear hi hk
  have hN1 : N ≤ 1296 := by rw [HN0.out]; exact HNL.out
  have wi : IntKind.i64.wrap (i : Int) = (i : Int) := by rw [IntKind.wrap_i64]; omega
  have wk : IntKind.i64.wrap (k : Int) = (k : Int) := by rw [IntKind.wrap_i64]; omega
  have n2 : ¬ N = 0 := by omega
  go_wp2
  refine wp_region_held_drew (S := fun w' => w' = w3.drew) (by kernel_rfl) rfl (fun hHeld => ?_)
  refine Gm.rh_take (i := 0) (k := 31) (v := ?_) rfl rfl (by kernel_rfl) (by kernel_rfl) (by kernel_rfl) (fun _ _ _ h => h) (Or.inl ⟨by rfl, ?_⟩) hHeld ?_
  rotate_left
  · (intro w hSw; clear hSw; go_simp; try with_reducible rfl)
  simp only [Act.put, List.setIfInBounds_toArray, List.set_cons_zero, List.set_cons_succ]
  refine Gm.rh_take (i := 1) (k := 32) (v := ?_) rfl rfl (by kernel_rfl) (by kernel_rfl) (by kernel_rfl) (fun _ _ _ h => h) (Or.inl ⟨by rfl, ?_⟩) hHeld ?_
  rotate_left
  · (intro w hSw; clear hSw; go_simp; try with_reducible rfl)
  simp only [Act.put, List.setIfInBounds_toArray, List.set_cons_zero, List.set_cons_succ]
  refine Gm.rh_take (i := 2) (k := 33) (v := ?_) rfl rfl (by kernel_rfl) (by kernel_rfl) (by kernel_rfl) (fun _ _ _ h => h) (Or.inl ⟨by rfl, ?_⟩) hHeld ?_
  rotate_left
  · (intro w hSw; clear hSw; go_simp; try with_reducible rfl)
  simp only [Act.put, List.setIfInBounds_toArray, List.set_cons_zero, List.set_cons_succ]
  refine Gm.rh_take (i := 3) (k := 34) (v := ?_) rfl rfl (by kernel_rfl) (by kernel_rfl) (by kernel_rfl) (fun _ _ _ h => h) (Or.inl ⟨by rfl, ?_⟩) hHeld ?_
  rotate_left
  · (intro w hSw; clear hSw; go_simp; try with_reducible rfl)
  simp only [Act.put, List.setIfInBounds_toArray, List.set_cons_zero, List.set_cons_succ]
  refine Gm.rh_take (i := 4) (k := 35) (v := ?_) rfl rfl (by kernel_rfl) (by kernel_rfl) (by kernel_rfl) (fun _ _ _ h => h) (Or.inl ⟨by rfl, ?_⟩) hHeld ?_
  rotate_left
  · (intro w hSw; clear hSw; go_simp; try with_reducible rfl)
  simp only [Act.put, List.setIfInBounds_toArray, List.set_cons_zero, List.set_cons_succ]
  refine Gm.rh_take (i := 5) (k := 36) (v := ?_) rfl rfl (by kernel_rfl) (by kernel_rfl) (by kernel_rfl) (fun _ _ _ h => h) (Or.inl ⟨by rfl, ?_⟩) hHeld ?_
  rotate_left
  · (intro w hSw; clear hSw; go_simp; try with_reducible rfl)
  simp only [Act.put, List.setIfInBounds_toArray, List.set_cons_zero, List.set_cons_succ]
  refine Gm.rh_take (i := 6) (k := 37) (v := ?_) rfl rfl (by kernel_rfl) (by kernel_rfl) (by kernel_rfl) (fun _ _ _ h => h) (Or.inl ⟨by rfl, ?_⟩) hHeld ?_
  rotate_left
  · (intro w hSw; clear hSw; go_simp; try with_reducible rfl)
  simp only [Act.put, List.setIfInBounds_toArray, List.set_cons_zero, List.set_cons_succ]
  refine Gm.rh_take (i := 7) (k := 38) (v := ?_) rfl rfl (by kernel_rfl) (by kernel_rfl) (by kernel_rfl) (fun _ _ _ h => h) (Or.inl ⟨by rfl, ?_⟩) hHeld ?_
  rotate_left
  · (intro w hSw; clear hSw; go_simp; try with_reducible rfl)
  simp only [Act.put, List.setIfInBounds_toArray, List.set_cons_zero, List.set_cons_succ]
  refine Gm.rh_take (i := 8) (k := 39) (v := ?_) rfl rfl (by kernel_rfl) (by kernel_rfl) (by kernel_rfl) (fun _ _ _ h => h) (Or.inl ⟨by rfl, ?_⟩) hHeld ?_
  rotate_left
  · (intro w hSw; clear hSw; go_simp; try with_reducible rfl)
  simp only [Act.put, List.setIfInBounds_toArray, List.set_cons_zero, List.set_cons_succ]
  refine Gm.rh_take (i := 9) (k := 40) (v := ?_) rfl rfl (by kernel_rfl) (by kernel_rfl) (by kernel_rfl) (fun _ _ _ h => h) (Or.inl ⟨by rfl, ?_⟩) hHeld ?_
  rotate_left
  · (intro w hSw; clear hSw; go_simp; try with_reducible rfl)
  simp only [Act.put, List.setIfInBounds_toArray, List.set_cons_zero, List.set_cons_succ]
  refine Gm.rh_take (i := 10) (k := 9) (v := ?_) rfl rfl (by kernel_rfl) (by kernel_rfl) (by kernel_rfl) (fun _ _ _ h => h) (Or.inl ⟨by rfl, ?_⟩) hHeld ?_
  rotate_left
  · (intro w hSw; clear hSw; go_simp; try with_reducible rfl)
  simp only [Act.put, List.setIfInBounds_toArray, List.set_cons_zero, List.set_cons_succ]
  refine Gm.rh_take (i := 11) (k := 10) (v := ?_) rfl rfl (by kernel_rfl) (by kernel_rfl) (by kernel_rfl) (fun _ _ _ h => h) (Or.inl ⟨by rfl, ?_⟩) hHeld ?_
  rotate_left
  · (intro w hSw; clear hSw; go_simp; try with_reducible rfl)
  simp only [Act.put, List.setIfInBounds_toArray, List.set_cons_zero, List.set_cons_succ]
  refine wpAnyH_done (by kernel_rfl) ?_ _
  clear hHeld
  clear ti tk wi wk n2 n1 n0 ea eb
  have him : i * N ≤ 1296 * 1296 := Nat.mul_le_mul (by omega) hN1
  obtain ⟨s1, z1⟩ : ∃ s, s = 1 + i := ⟨_, rfl⟩
  obtain ⟨s2, z2⟩ : ∃ s, s = 1 + N := ⟨_, rfl⟩
  obtain ⟨s3, z3⟩ : ∃ s, s = i * N := ⟨_, rfl⟩
  obtain ⟨s4, z4⟩ : ∃ s, s = s2 + s3 := ⟨_, rfl⟩
  obtain ⟨s5, z5⟩ : ∃ s, s = s4 + k := ⟨_, rfl⟩
  rw [← z3] at him
  have e1 : IntKind.i64.wrap (1 + (i : Int)) = (s1 : Int) := by rw [IntKind.wrap_i64]; omega
  have e2 : IntKind.i64.wrap (1 + (N : Int)) = (s2 : Int) := by rw [IntKind.wrap_i64]; omega
  have e3 : IntKind.i64.wrap ((i : Int) * (N : Int)) = (s3 : Int) := by rw [← Int.natCast_mul, ← z3, IntKind.wrap_i64]; omega
  have e4 : IntKind.i64.wrap ((s2 : Int) + (s3 : Int)) = (s4 : Int) := by rw [IntKind.wrap_i64]; omega
  have e5 : IntKind.i64.wrap ((s4 : Int) + (k : Int)) = (s5 : Int) := by rw [IntKind.wrap_i64]; omega
  obtain ⟨v1, v2⟩ := HT.out i k trivial (by rw [← HN0.out]; exact hiN) (by rw [← HN0.out]; exact hkN)
  rw [← z1] at v1
  rw [← HN0.out, ← z2, ← z3, ← z4, ← z5] at v2
  have r1 := HRUN.out (s1 : Int) (by omega)
  have r2 := HRUN.out (s5 : Int) (by omega)
  rw [v1] at r1
  rw [v2] at r2
  simp only [List.length_cons, List.length_nil, Nat.zero_add, Nat.reduceAdd] at r1 r2
  have R1 := Aside0.mk r1
  have R2 := Aside0.mk r2
  clear r1 r2 v1 v2 z1 z2 z3 z4 z5 HT HRUN him
  have kk : ∀ j v, w3.cell? ⟨W.heap.size, j, none⟩ = v → w3.drew.cell? ⟨W.heap.size, j, none⟩ = v := fun j v h => h
  have ND := Aside0.mk (HB.out.drew)
  have NX := Aside0.mk (HX.out.below (Below.refl _ w3).drew)
  have NC := Aside0.mk (Kd.C_below HC.out (Below.refl _ w3).drew)
  clear HB HX HC k0 k1 k2 k3 f0 f1 f2 f3 hz kk
  have HB := ND
  have HX := NX
  have HC := NC
  clear ND NX NC
  generalize w3.drew = w4 at *
  obtain ⟨⟨k0, k1, k2, k3⟩, ⟨f0, f1, f2, f3⟩, hz⟩ := HX.out.cells
  go_wp2_with (go_at_call 23; refine Gm.hold_ ?_)
  intro _
  refine (R1.out _ (HL.out.below HB.out)).mono ?_
  rintro e w5 ⟨Ax, cx, rfl, hx, hkx, hb⟩
  have HCX := Aside0.mk hx
  have HKX := Aside0.mk hkx
  have NB := Aside0.mk (below_step HB.out hb)
  have NX := Aside0.mk (HX.out.below hb)
  have NC := Aside0.mk (Kd.C_below HC.out hb)
  clear HB HX HC hb k0 k1 k2 k3 f0 f1 f2 f3 hz hx hkx
  have HB := NB
  have HX := NX
  have HC := NC
  clear NB NX NC
  obtain ⟨⟨k0, k1, k2, k3⟩, ⟨f0, f1, f2, f3⟩, hz⟩ := HX.out.cells
  go_wp2_with (go_at_call 23; refine Gm.hold_ ?_)
  intro _
  refine (R2.out _ (HL.out.below HB.out)).mono ?_
  rintro e w6 ⟨Ay, cy, rfl, hy, hky, hb⟩
  have NB := Aside0.mk (below_step HB.out hb)
  have NC := Aside0.mk (Kd.C_below HC.out hb)
  have NCX := Aside0.mk (Kd.C_below HCX.out hb)
  have HCY := Aside0.mk hy
  have HKY := Aside0.mk hky
  clear HB HX HC HCX hb k0 k1 k2 k3 f0 f1 f2 f3 hz hy hky e1 e2 e3 e4 e5
  have HB := NB
  have HC := NC
  have HCX := NCX
  clear NB NC NCX
  obtain ⟨adi, rfl⟩ : ∃ ad, Ai = some ad := by
    obtain ⟨ad, e, _⟩ := at_T25 HC.out (i : Int) (by omega) (by rw [← HN0.out]; omega)
    exact ⟨ad, e⟩
  obtain ⟨ady, rfl⟩ : ∃ ad, Ay = some ad := by
    obtain ⟨ad, e, _⟩ := at_T25 HCY.out 0 (by omega) (by decide)
    exact ⟨ad, e⟩
  have X1 := Aside0.mk (at5_of HC.out i (by rw [← HN0.out]; exact hiN) rfl)
  have X2 := Aside0.mk (at5_of HC.out k (by rw [← HN0.out]; exact hkN) rfl)
  have Y1 := Aside0.mk (at5_of HCY.out 0 (by decide) rfl)
  have Y2 := Aside0.mk (at5_of HCY.out 1 (by decide) rfl)
  have HSUB := Aside0.mk (sub_at HC.out (by rw [← HN0.out]; exact hiN) HK.out)
  have hK := HK.out
  rw [← HN0.out] at hK
  have e6 : IntKind.i64.wrap ((i : Int) + 1) = (i : Int) + 1 := by rw [IntKind.wrap_i64]; omega
  have g1 : 0 ≤ (i : Int) + 1 := by omega
  have g2 : (i : Int) + 1 ≤ (ci : Int) := by omega
  have g3 : i + 1 - i = 1 := by omega
  have g4 : ¬ ci = i := by omega
  have g5 : (i : Int) < (N : Int) := by omega
  have g6 : (k : Int) < (N : Int) := by omega
  have y0 : l.getD i default = [l.getD i default, l.getD k default].getD 0 default := rfl
  have y1 : l.getD k default = [l.getD i default, l.getD k default].getD 1 default := rfl
  rw [← y0, show ady.add (0 * 5) = ady by simp [Addr.add]] at Y1
  rw [← y1, show ady.add (1 * 5) = ⟨ady.block, ady.off + 5, none⟩ by simp [Addr.add]] at Y2
  clear y0 y1 HC HCY
  obtain ⟨xi, hxi⟩ : ∃ x, x = l.getD i default := ⟨_, rfl⟩
  obtain ⟨xk, hxk⟩ : ∃ x, x = l.getD k default := ⟨_, rfl⟩
  rw [← hxi] at X1 Y1 HSUB HCX
  rw [← hxk] at X2 Y2
  clear hxi hxk
  go_wp2
  refine wp_region_held_drew (S := fun w' => Below w6.heap.size w6 w') (by kernel_rfl) (Below.refl _ w6).drew (fun hHeld => ?_)
  refine Gm.rh_take (i := 0) (k := 63) (v := ?_) rfl rfl (by kernel_rfl) (by kernel_rfl) (by kernel_rfl) (fun _ _ _ h => h) (Or.inl ⟨by rfl, ?_⟩) hHeld ?_
  rotate_left
  · (intro w hSw; clear hSw; go_simp; try with_reducible rfl)
  simp only [Act.put, List.setIfInBounds_toArray, List.set_cons_zero, List.set_cons_succ]
  refine Gm.rh_take (i := 1) (k := 64) (v := ?_) rfl rfl (by kernel_rfl) (by kernel_rfl) (by kernel_rfl) (fun _ _ _ h => h) (Or.inl ⟨by rfl, ?_⟩) hHeld ?_
  rotate_left
  · (intro w hSw; clear hSw; go_simp; try with_reducible rfl)
  simp only [Act.put, List.setIfInBounds_toArray, List.set_cons_zero, List.set_cons_succ]
  refine Gm.rh_take (i := 2) (k := 65) (v := ?_) rfl rfl (by kernel_rfl) (by kernel_rfl) (by kernel_rfl) (fun _ _ _ h => h) (Or.inl ⟨by rfl, ?_⟩) hHeld ?_
  rotate_left
  · (intro w hSw; clear hSw; go_simp; try with_reducible rfl)
  simp only [Act.put, List.setIfInBounds_toArray, List.set_cons_zero, List.set_cons_succ]
  refine Gm.rh_take (i := 3) (k := 66) (v := ?_) rfl rfl (by kernel_rfl) (by kernel_rfl) (by kernel_rfl) (fun _ _ _ h => h) (Or.inl ⟨by rfl, ?_⟩) hHeld ?_
  rotate_left
  · (intro w hSw; clear hSw; go_simp; try with_reducible rfl)
  simp only [Act.put, List.setIfInBounds_toArray, List.set_cons_zero, List.set_cons_succ]
  refine Gm.rh_take (i := 4) (k := 67) (v := ?_) rfl rfl (by kernel_rfl) (by kernel_rfl) (by kernel_rfl) (fun _ _ _ h => h) (Or.inl ⟨by rfl, ?_⟩) hHeld ?_
  rotate_left
  · (intro w hSw; clear hSw; go_simp; try with_reducible rfl)
  simp only [Act.put, List.setIfInBounds_toArray, List.set_cons_zero, List.set_cons_succ]
  refine Gm.rh_take (i := 5) (k := 68) (v := ?_) rfl rfl (by kernel_rfl) (by kernel_rfl) (by kernel_rfl) (fun _ _ _ h => h) (Or.inl ⟨by rfl, ?_⟩) hHeld ?_
  rotate_left
  · (intro w hSw; clear hSw; go_simp; try with_reducible rfl)
  simp only [Act.put, List.setIfInBounds_toArray, List.set_cons_zero, List.set_cons_succ]
  refine Gm.rh_take (i := 6) (k := 69) (v := ?_) rfl rfl (by kernel_rfl) (by kernel_rfl) (by kernel_rfl) (fun _ _ _ h => h) (Or.inl ⟨by rfl, ?_⟩) hHeld ?_
  rotate_left
  · (intro w hSw; clear hSw; go_simp; try with_reducible rfl)
  simp only [Act.put, List.setIfInBounds_toArray, List.set_cons_zero, List.set_cons_succ]
  refine Gm.rh_take (i := 7) (k := 70) (v := ?_) rfl rfl (by kernel_rfl) (by kernel_rfl) (by kernel_rfl) (fun _ _ _ h => h) (Or.inl ⟨by rfl, ?_⟩) hHeld ?_
  rotate_left
  · (intro w hSw; clear hSw; go_simp; try with_reducible rfl)
  simp only [Act.put, List.setIfInBounds_toArray, List.set_cons_zero, List.set_cons_succ]
  refine Gm.rh_take (i := 8) (k := 71) (v := ?_) rfl rfl (by kernel_rfl) (by kernel_rfl) (by kernel_rfl) (fun _ _ _ h => h) (Or.inl ⟨by rfl, ?_⟩) hHeld ?_
  rotate_left
  · (intro w hSw; clear hSw; go_simp; try with_reducible rfl)
  simp only [Act.put, List.setIfInBounds_toArray, List.set_cons_zero, List.set_cons_succ]
  refine Gm.rh_take (i := 9) (k := 72) (v := ?_) rfl rfl (by kernel_rfl) (by kernel_rfl) (by kernel_rfl) (fun _ _ _ h => h) (Or.inl ⟨by rfl, ?_⟩) hHeld ?_
  rotate_left
  · (intro w hSw; clear hSw; go_simp; try with_reducible rfl)
  simp only [Act.put, List.setIfInBounds_toArray, List.set_cons_zero, List.set_cons_succ]
  refine Gm.rh_take (i := 10) (k := 73) (v := ?_) rfl rfl (by kernel_rfl) (by kernel_rfl) (by kernel_rfl) (fun _ _ _ h => h) (Or.inl ⟨by rfl, ?_⟩) hHeld ?_
  rotate_left
  · (intro w hSw; clear hSw; go_simp; try with_reducible rfl)
  simp only [Act.put, List.setIfInBounds_toArray, List.set_cons_zero, List.set_cons_succ]
  refine Gm.rh_take (i := 11) (k := 74) (v := ?_) rfl rfl (by kernel_rfl) (by kernel_rfl) (by kernel_rfl) (fun _ _ _ h => h) (Or.inl ⟨by rfl, ?_⟩) hHeld ?_
  rotate_left
  · (intro w hSw; clear hSw; go_simp; try with_reducible rfl)
  simp only [Act.put, List.setIfInBounds_toArray, List.set_cons_zero, List.set_cons_succ]
  refine Gm.rh_take (i := 12) (k := 75) (v := ?_) rfl rfl (by kernel_rfl) (by kernel_rfl) (by kernel_rfl) (fun _ _ _ h => h) (Or.inl ⟨by rfl, ?_⟩) hHeld ?_
  rotate_left
  · (intro w hSw; clear hSw; go_simp; try with_reducible rfl)
  simp only [Act.put, List.setIfInBounds_toArray, List.set_cons_zero, List.set_cons_succ]
  refine wpAnyH_ready (rs := [13]) (by kernel_rfl) (by simp) ?_
  refine AllReadyH.cons (i := 13) rfl (fun K hK => ?_) AllReadyH.nil
  go_simp
  refine (Same_c Ax (some (adi.add (i * 5))) cx (ci - i) 1 [xi] (Kd.C_below HCX.out hHeld) (Kd.C_below HSUB.out hHeld) rfl HKX.out (by omega) (by omega)).mono ?_
  rintro e w8 ⟨rfl, hb8⟩
  go_wp2_with fail
  refine hK.out _ _ (below_step hHeld hb8) (fun hHeld => ?_)
  clear hK K
  try simp only [Act.put, List.setIfInBounds_toArray, List.set_cons_zero, List.set_cons_succ]
  refine Gm.rh_take (i := 14) (k := 77) (v := ?_) rfl rfl (by kernel_rfl) (by kernel_rfl) (by kernel_rfl) (fun _ _ _ h => h) (Or.inl ⟨by rfl, ?_⟩) hHeld ?_
  rotate_left
  · (intro w hSw; clear hSw; go_simp; try with_reducible rfl)
  simp only [Act.put, List.setIfInBounds_toArray, List.set_cons_zero, List.set_cons_succ]
  refine Gm.rh_take (i := 15) (k := 78) (v := ?_) rfl rfl (by kernel_rfl) (by kernel_rfl) (by kernel_rfl) (fun _ _ _ h => h) (Or.inl ⟨by rfl, ?_⟩) hHeld ?_
  rotate_left
  · (intro w hSw; clear hSw; go_simp; try with_reducible rfl)
  simp only [Act.put, List.setIfInBounds_toArray, List.set_cons_zero, List.set_cons_succ]
  refine Gm.rh_take (i := 16) (k := 79) (v := ?_) rfl rfl (by kernel_rfl) (by kernel_rfl) (by kernel_rfl) (fun _ _ _ h => h) (Or.inl ⟨by rfl, ?_⟩) hHeld ?_
  rotate_left
  · (intro w hSw; clear hSw; go_simp; try with_reducible rfl)
  simp only [Act.put, List.setIfInBounds_toArray, List.set_cons_zero, List.set_cons_succ]
  refine Gm.rh_take (i := 17) (k := 80) (v := ?_) rfl rfl (by kernel_rfl) (by kernel_rfl) (by kernel_rfl) (fun _ _ _ h => h) (Or.inl ⟨by rfl, ?_⟩) hHeld ?_
  rotate_left
  · (intro w hSw; clear hSw; go_simp; try with_reducible rfl)
  simp only [Act.put, List.setIfInBounds_toArray, List.set_cons_zero, List.set_cons_succ]
  refine Gm.rh_take (i := 18) (k := 81) (v := ?_) rfl rfl (by kernel_rfl) (by kernel_rfl) (by kernel_rfl) (fun _ _ _ h => h) (Or.inl ⟨by rfl, ?_⟩) hHeld ?_
  rotate_left
  · (intro w hSw; clear hSw; go_simp; try with_reducible rfl)
  simp only [Act.put, List.setIfInBounds_toArray, List.set_cons_zero, List.set_cons_succ]
  refine Gm.rh_take (i := 19) (k := 82) (v := ?_) rfl rfl (by kernel_rfl) (by kernel_rfl) (by kernel_rfl) (fun _ _ _ h => h) (Or.inl ⟨by rfl, ?_⟩) hHeld ?_
  rotate_left
  · (intro w hSw; clear hSw; go_simp; try with_reducible rfl)
  simp only [Act.put, List.setIfInBounds_toArray, List.set_cons_zero, List.set_cons_succ]
  refine Gm.rh_take (i := 20) (k := 83) (v := ?_) rfl rfl (by kernel_rfl) (by kernel_rfl) (by kernel_rfl) (fun _ _ _ h => h) (Or.inl ⟨by rfl, ?_⟩) hHeld ?_
  rotate_left
  · (intro w hSw; clear hSw; go_simp; try with_reducible rfl)
  simp only [Act.put, List.setIfInBounds_toArray, List.set_cons_zero, List.set_cons_succ]
  refine Gm.rh_take (i := 21) (k := 84) (v := ?_) rfl rfl (by kernel_rfl) (by kernel_rfl) (by kernel_rfl) (fun _ _ _ h => h) (Or.inl ⟨by rfl, ?_⟩) hHeld ?_
  rotate_left
  · (intro w hSw; clear hSw; go_simp; try with_reducible rfl)
  simp only [Act.put, List.setIfInBounds_toArray, List.set_cons_zero, List.set_cons_succ]
  refine Gm.rh_take (i := 22) (k := 85) (v := ?_) rfl rfl (by kernel_rfl) (by kernel_rfl) (by kernel_rfl) (fun _ _ _ h => h) (Or.inl ⟨by rfl, ?_⟩) hHeld ?_
  rotate_left
  · (intro w hSw; clear hSw; go_simp; try with_reducible rfl)
  simp only [Act.put, List.setIfInBounds_toArray, List.set_cons_zero, List.set_cons_succ]
  refine Gm.rh_take (i := 23) (k := 86) (v := ?_) rfl rfl (by kernel_rfl) (by kernel_rfl) (by kernel_rfl) (fun _ _ _ h => h) (Or.inl ⟨by rfl, ?_⟩) hHeld ?_
  rotate_left
  · (intro w hSw; obtain ⟨s0, s1, s2, s3, s4⟩ := Y1.out.below hSw; go_simp; try with_reducible rfl)
  simp only [Act.put, List.setIfInBounds_toArray, List.set_cons_zero, List.set_cons_succ]
  refine Gm.rh_take (i := 24) (k := 87) (v := ?_) rfl rfl (by kernel_rfl) (by kernel_rfl) (by kernel_rfl) (fun _ _ _ h => h) (Or.inl ⟨by rfl, ?_⟩) hHeld ?_
  rotate_left
  · (intro w hSw; clear hSw; go_simp; try with_reducible rfl)
  simp only [Act.put, List.setIfInBounds_toArray, List.set_cons_zero, List.set_cons_succ]
  refine Gm.rh_take (i := 25) (k := 88) (v := ?_) rfl rfl (by kernel_rfl) (by kernel_rfl) (by kernel_rfl) (fun _ _ _ h => h) (Or.inl ⟨by rfl, ?_⟩) hHeld ?_
  rotate_left
  · (intro w hSw; clear hSw; go_simp; try with_reducible rfl)
  simp only [Act.put, List.setIfInBounds_toArray, List.set_cons_zero, List.set_cons_succ]
  refine Gm.rh_take (i := 26) (k := 89) (v := ?_) rfl rfl (by kernel_rfl) (by kernel_rfl) (by kernel_rfl) (fun _ _ _ h => h) (Or.inl ⟨by rfl, ?_⟩) hHeld ?_
  rotate_left
  · (intro w hSw; clear hSw; go_simp; try with_reducible rfl)
  simp only [Act.put, List.setIfInBounds_toArray, List.set_cons_zero, List.set_cons_succ]
  refine Gm.rh_take (i := 27) (k := 90) (v := ?_) rfl rfl (by kernel_rfl) (by kernel_rfl) (by kernel_rfl) (fun _ _ _ h => h) (Or.inl ⟨by rfl, ?_⟩) hHeld ?_
  rotate_left
  · (intro w hSw; obtain ⟨s0, s1, s2, s3, s4⟩ := X1.out.below hSw; go_simp; try with_reducible rfl)
  simp only [Act.put, List.setIfInBounds_toArray, List.set_cons_zero, List.set_cons_succ]
  refine Gm.rh_take (i := 28) (k := 91) (v := ?_) rfl rfl (by kernel_rfl) (by kernel_rfl) (by kernel_rfl) (fun _ _ _ h => h) (Or.inl ⟨by rfl, ?_⟩) hHeld ?_
  rotate_left
  · (intro w hSw; clear hSw; go_simp; try with_reducible rfl)
  simp only [Act.put, List.setIfInBounds_toArray, List.set_cons_zero, List.set_cons_succ]
  refine Gm.rh_take (i := 29) (k := 92) (v := ?_) rfl rfl (by kernel_rfl) (by kernel_rfl) (by kernel_rfl) (fun _ _ _ h => h) (Or.inl ⟨by rfl, ?_⟩) hHeld ?_
  rotate_left
  · (intro w hSw; clear hSw; go_simp; try with_reducible rfl)
  simp only [Act.put, List.setIfInBounds_toArray, List.set_cons_zero, List.set_cons_succ]
  refine Gm.rh_take (i := 30) (k := 93) (v := ?_) rfl rfl (by kernel_rfl) (by kernel_rfl) (by kernel_rfl) (fun _ _ _ h => h) (Or.inl ⟨by rfl, ?_⟩) hHeld ?_
  rotate_left
  · (intro w hSw; clear hSw; go_simp; try with_reducible rfl)
  simp only [Act.put, List.setIfInBounds_toArray, List.set_cons_zero, List.set_cons_succ]
  refine Gm.rh_take (i := 31) (k := 94) (v := ?_) rfl rfl (by kernel_rfl) (by kernel_rfl) (by kernel_rfl) (fun _ _ _ h => h) (Or.inl ⟨by rfl, ?_⟩) hHeld ?_
  rotate_left
  · (intro w hSw; clear hSw; go_simp; try with_reducible rfl)
  simp only [Act.put, List.setIfInBounds_toArray, List.set_cons_zero, List.set_cons_succ]
  refine Gm.rh_take (i := 32) (k := 95) (v := ?_) rfl rfl (by kernel_rfl) (by kernel_rfl) (by kernel_rfl) (fun _ _ _ h => h) (Or.inl ⟨by rfl, ?_⟩) hHeld ?_
  rotate_left
  · (intro w hSw; clear hSw; go_simp; try with_reducible rfl)
  simp only [Act.put, List.setIfInBounds_toArray, List.set_cons_zero, List.set_cons_succ]
  refine Gm.rh_take (i := 33) (k := 96) (v := ?_) rfl rfl (by kernel_rfl) (by kernel_rfl) (by kernel_rfl) (fun _ _ _ h => h) (Or.inl ⟨by rfl, ?_⟩) hHeld ?_
  rotate_left
  · (intro w hSw; obtain ⟨s0, s1, s2, s3, s4⟩ := Y2.out.below hSw; go_simp; try with_reducible rfl)
  simp only [Act.put, List.setIfInBounds_toArray, List.set_cons_zero, List.set_cons_succ]
  refine Gm.rh_take (i := 34) (k := 97) (v := ?_) rfl rfl (by kernel_rfl) (by kernel_rfl) (by kernel_rfl) (fun _ _ _ h => h) (Or.inl ⟨by rfl, ?_⟩) hHeld ?_
  rotate_left
  · (intro w hSw; clear hSw; go_simp; try with_reducible rfl)
  simp only [Act.put, List.setIfInBounds_toArray, List.set_cons_zero, List.set_cons_succ]
  refine Gm.rh_take (i := 35) (k := 98) (v := ?_) rfl rfl (by kernel_rfl) (by kernel_rfl) (by kernel_rfl) (fun _ _ _ h => h) (Or.inl ⟨by rfl, ?_⟩) hHeld ?_
  rotate_left
  · (intro w hSw; clear hSw; go_simp; try with_reducible rfl)
  simp only [Act.put, List.setIfInBounds_toArray, List.set_cons_zero, List.set_cons_succ]
  refine Gm.rh_take (i := 36) (k := 99) (v := ?_) rfl rfl (by kernel_rfl) (by kernel_rfl) (by kernel_rfl) (fun _ _ _ h => h) (Or.inl ⟨by rfl, ?_⟩) hHeld ?_
  rotate_left
  · (intro w hSw; clear hSw; go_simp; try with_reducible rfl)
  simp only [Act.put, List.setIfInBounds_toArray, List.set_cons_zero, List.set_cons_succ]
  refine Gm.rh_take (i := 37) (k := 100) (v := ?_) rfl rfl (by kernel_rfl) (by kernel_rfl) (by kernel_rfl) (fun _ _ _ h => h) (Or.inl ⟨by rfl, ?_⟩) hHeld ?_
  rotate_left
  · (intro w hSw; obtain ⟨s0, s1, s2, s3, s4⟩ := X2.out.below hSw; go_simp; try with_reducible rfl)
  simp only [Act.put, List.setIfInBounds_toArray, List.set_cons_zero, List.set_cons_succ]
  refine Gm.rh_take (i := 38) (k := 101) (v := ?_) rfl rfl (by kernel_rfl) (by kernel_rfl) (by kernel_rfl) (fun _ _ _ h => h) (Or.inl ⟨by rfl, ?_⟩) hHeld ?_
  rotate_left
  · (intro w hSw; clear hSw; go_simp; try with_reducible rfl)
  simp only [Act.put, List.setIfInBounds_toArray, List.set_cons_zero, List.set_cons_succ]
  refine Gm.rh_take (i := 39) (k := 102) (v := ?_) rfl rfl (by kernel_rfl) (by kernel_rfl) (by kernel_rfl) (fun _ _ _ h => h) (Or.inl ⟨by rfl, ?_⟩) hHeld ?_
  rotate_left
  · (intro w hSw; clear hSw; go_simp; try with_reducible rfl)
  simp only [Act.put, List.setIfInBounds_toArray, List.set_cons_zero, List.set_cons_succ]
  refine Gm.rh_take (i := 40) (k := 103) (v := ?_) rfl rfl (by kernel_rfl) (by kernel_rfl) (by kernel_rfl) (fun _ _ _ h => h) (Or.inl ⟨by rfl, ?_⟩) hHeld ?_
  rotate_left
  · (intro w hSw; clear hSw; go_simp; try with_reducible rfl)
  simp only [Act.put, List.setIfInBounds_toArray, List.set_cons_zero, List.set_cons_succ]
  refine wpAnyH_ready (rs := [41]) (by kernel_rfl) (by simp) ?_
  refine AllReadyH.cons (i := 41) rfl (fun K hK => ?_) AllReadyH.nil
  go_simp
  refine (fixed_c _).mono ?_
  rintro e w9 ⟨rfl, hb9⟩
  go_wp2_with fail
  refine hK.out _ _ (below_step hHeld hb9) (fun hHeld => ?_)
  clear hK K
  try simp only [Act.put, List.setIfInBounds_toArray, List.set_cons_zero, List.set_cons_succ]
  refine Gm.rh_take (i := 42) (k := 105) (v := ?_) rfl rfl (by kernel_rfl) (by kernel_rfl) (by kernel_rfl) (fun _ _ _ h => h) (Or.inl ⟨by rfl, ?_⟩) hHeld ?_
  rotate_left
  · (intro w hSw; clear hSw; go_simp; try with_reducible rfl)
  simp only [Act.put, List.setIfInBounds_toArray, List.set_cons_zero, List.set_cons_succ]
  refine Gm.rh_take (i := 43) (k := 6) (v := ?_) rfl rfl (by kernel_rfl) (by kernel_rfl) (by kernel_rfl) (fun _ _ _ h => h) (Or.inl ⟨by rfl, ?_⟩) hHeld ?_
  rotate_left
  · (intro w hSw; clear hSw; go_simp; try with_reducible rfl)
  simp only [Act.put, List.setIfInBounds_toArray, List.set_cons_zero, List.set_cons_succ]
  refine wpAnyH_done (by kernel_rfl) ?_ _
  have HF := Aside0.mk (below_step HB.out hHeld)
  go_wp2
  go_ret
  exact ⟨by simp, HF.out⟩
end Go.Proofs.Ytcjbdfhofpfooaa.Q
