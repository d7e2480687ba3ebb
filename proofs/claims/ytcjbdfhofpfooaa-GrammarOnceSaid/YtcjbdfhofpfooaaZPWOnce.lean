import Derived.Test.YtcjbdfhofpfooaaZQx0
import Derived.Test.YtcjbdfhofpfooaaZQx17
import Derived.Test.YtcjbdfhofpfooaaZQx18
import Derived.Test.YtcjbdfhofpfooaaZQx4
import Derived.Test.YtcjbdfhofpfooaaZQx6
import Derived.Test.YtcjbdfhofpfooaaZQx7
import Derived.Test.YtcjbdfhofpfooaaZQx8
import Derived.Test.YtcjbdfhofpfooaaZPWNone
import Derived.LoopTactic
import Derived.Deep.LoopGhost
import Derived.IntWalk
import Derived.WalkKit
import Derived.Outline
namespace Go.Proofs.Ytcjbdfhofpfooaa.Q
open Go.RowKit Go.Proofs.YtcjbdfhofpfooaaW.PrintWords Go.Proofs.YtcjbdfhofpfooaaW.PrintLast Go.Proofs.YtcjbdfhofpfooaaW.PrintMore
set_option linter.unusedVariables false
set_option linter.unusedSimpArgs false
attribute [local go_sem] max2_int min2_int max_two min_two max_three min_three max_four min_four
attribute [local go_sem] imax_u32 imax_u8 isg_u32 isg_u8
structure At5 (w : World) (p : Addr) (x : Gm.In) : Prop where
  h0 : w.cell? p = some (.int .i64 x.op)
  h1 : w.cell? ⟨p.block, p.off + 1, none⟩ = some (.int .i64 x.rd)
  h2 : w.cell? ⟨p.block, p.off + 2, none⟩ = some (.int .i64 x.a)
  h3 : w.cell? ⟨p.block, p.off + 3, none⟩ = some (.int .i64 x.b)
  h4 : w.cell? ⟨p.block, p.off + 4, none⟩ = some (.int .i64 x.m)
theorem at5_of {w : World} {ad : Addr} {l : List Gm.In} {n : Nat} (h : Kd.C k25 w (some ad) n (l.map toS)) (i : Nat) (hi : i < n) (hn : n = l.length) : At5 w (ad.add (i * 5)) (l.getD i default) := by
  obtain ⟨ad', e, a0, a1, a2, a3, a4⟩ := at_T25 h (i : Int) (by omega) (by omega)
  cases e
  rw [toS_at l i (by omega)] at a0 a1 a2 a3 a4
  exact ⟨a0, a1, a2, a3, a4⟩
theorem At5.below {w w' : World} {p : Addr} {x : Gm.In} (h : At5 w p x) (hb : Below w.heap.size w w') : At5 w' p x :=
  ⟨(hb.cell (World.block_lt_of_cell? w _ h.h0)).trans h.h0, (hb.cell (World.block_lt_of_cell? w _ h.h1)).trans h.h1, (hb.cell (World.block_lt_of_cell? w _ h.h2)).trans h.h2, (hb.cell (World.block_lt_of_cell? w _ h.h3)).trans h.h3, (hb.cell (World.block_lt_of_cell? w _ h.h4)).trans h.h4⟩
theorem cs_mono (N : Nat) : ∀ d a : Nat, cs N a ≤ cs N (a + d) := by
  intro d
  induction d with
  | zero => intro a; exact Nat.le_refl _
  | succ d ih => intro a; exact Nat.le_trans (ih a) (Nat.le_add_right _ _)
theorem cs_lt (N a j k : Nat) (h1 : cs N a ≤ k) (h2 : k < cs N (j + 1)) : a ≤ j := by
  rcases Nat.lt_or_ge j a with h | h
  · have := cs_mono N (a - (j + 1)) (j + 1)
    rw [show j + 1 + (a - (j + 1)) = a by omega] at this
    omega
  · exact h
theorem ins_lift (L0 L1 L2 : List Int) (len : Int) (hc : chk L0 L1 L2 len = 0) (x : Gm.In) (hx : x ∈ ins L0 L1 L2 len) : Gm.lftv frm rgt x = true := by
  have hi : ins L0 L1 L2 len = Gm.allL frm rgt L0 L1 L2 := by
    have h : Gm.chkv frm rgt knd L0 L1 L2 len = 0 := hc
    unfold ins Gm.insv
    rw [if_pos h]
  rw [hi] at hx
  unfold Gm.allL at hx
  rw [List.mem_filter] at hx
  obtain ⟨hx, hr⟩ := hx
  rw [List.mem_flatMap] at hx
  obtain ⟨op, ho, hx⟩ := hx
  have hop : x.op = op := by
    unfold Gm.row1 Gm.row2 Gm.row3 at hx
    simp only [List.mem_flatMap, List.mem_map] at hx
    obtain ⟨_, _, _, _, _, _, rfl⟩ := hx
    unfold Gm.mkI
    split <;> rfl
  have hk : knd op = true := by
    unfold chk Gm.chkv at hc
    split at hc
    · cases hc
    · rename_i h
      cases hkk : knd op
      · exact absurd (Or.inl (List.any_eq_true.2 ⟨op, ho, by rw [hkk]; rfl⟩)) h
      · rfl
  have e : knd op = (op != 1 && Gm.lftv frm rgt ⟨op, 0, 0, 0, 0⟩) := rfl
  rw [e, Bool.and_eq_true] at hk
  have h2 := hk.2
  unfold Gm.lftv at h2 ⊢
  rw [Bool.and_eq_true] at h2
  rw [hr, hop]
  exact h2.2
theorem place_l0 (l : List Gm.In) (hl : l.length ≤ 1296) (d : Nat) (hd : d < l.length) : ∀ m i : Nat, i + m = d → ∃ p : Nat, p ≤ d ∧ Ev (fun k => whetstonelaw18_place.l0 k (l.map toS) (i : Int) (l.getD d default).op (l.getD d default).rd (l.getD d default).a (l.getD d default).b (l.getD d default).m) (p : Int) := by
  intro m
  induction m with
  | zero =>
    intro i hi
    obtain rfl : i = d := by omega
    refine ⟨i, Nat.le_refl _, 1, ?_⟩
    simp only [whetstonelaw18_place.l0, List.length_map]
    rw [if_pos (by omega), if_pos (by omega), toS_at l i hd]
    simp [toS]
  | succ m ih =>
    intro i hi
    obtain ⟨p, hp, k, hk⟩ := ih (i + 1) (by omega)
    by_cases hq : ((((rd_T25 (l.map toS) (i : Int)).f0) == (l.getD d default).op && (((rd_T25 (l.map toS) (i : Int)).f1) == (l.getD d default).rd && (((rd_T25 (l.map toS) (i : Int)).f2) == (l.getD d default).a && (((rd_T25 (l.map toS) (i : Int)).f3) == (l.getD d default).b && (((rd_T25 (l.map toS) (i : Int)).f4) == (l.getD d default).m)))))) = true
    · refine ⟨i, by omega, 1, ?_⟩
      simp only [whetstonelaw18_place.l0, List.length_map]
      rw [if_pos (by omega), if_pos (by omega), if_pos hq]
    · refine ⟨p, hp, k + 1, ?_⟩
      simp only [whetstonelaw18_place.l0, List.length_map]
      rw [if_pos (by omega), if_pos (by omega), if_neg hq, wrap_up _ (by omega)]
      exact hk
theorem place_c (l : List Gm.In) (hl : l.length ≤ 1296) (d : Nat) (hd : d < l.length) : ∃ p : Nat, p ≤ d ∧ ∀ (w : World) (A : Option Addr) (n c : Nat), n = l.length → Kd.C k25 w A n (l.map toS) → n ≤ c → Calls Try.prog 26 #[.slice A n c, .agg #[.int .i64 (l.getD d default).op, .int .i64 (l.getD d default).rd, .int .i64 (l.getD d default).a, .int .i64 (l.getD d default).b, .int .i64 (l.getD d default).m]] w fun e w' => e = .returned (.int .i64 (p : Int)) ∧ Below w.heap.size w w' := by
  obtain ⟨p, hp, k, hk⟩ := place_l0 l hl d hd d 0 (by omega)
  refine ⟨p, hp, fun w A n c hn hC hc => ?_⟩
  subst hn
  have e : l.length = (l.map toS).length := (List.length_map _).symm
  rw [e] at hC hc ⊢
  exact whetstonelaw18_place.calls k A c (l.map toS) _ _ _ _ _ _ w hC hc hk
theorem digit_step (N r q : Nat) : r / N ^ (q + 1) * N + r / N ^ q % N = r / N ^ q := by
  rw [Nat.pow_succ, ← Nat.div_div_eq_div_mul, Nat.mul_comm]
  exact Nat.div_add_mod _ _
theorem runL_get (l : List Gm.In) (j r t : Nat) (ht : t < j) : (runL l j r).getD t default = l.getD (r / l.length ^ (j - 1 - t) % l.length) default := by
  unfold runL
  rw [List.getD_eq_getElem?_getD, List.getElem?_map, List.getElem?_range ht]
  rfl
theorem cost_c (x : Gm.In) (w : World) : Calls Try.prog 11 #[.agg #[.int .i64 x.op, .int .i64 x.rd, .int .i64 x.a, .int .i64 x.b, .int .i64 x.m]] w fun e w' => e = .returned (.int .i64 (cst (toS x))) ∧ Below w.heap.size w w' :=
  grammar_Cost.calls 9 x.op x.rd x.a x.b x.m _ w (Cost_eq (toS x) 9 (Nat.le_refl _))
theorem liftc (x : Gm.In) (w : World) : Calls Try.prog 25 #[.agg #[.int .i64 x.op, .int .i64 x.rd, .int .i64 x.a, .int .i64 x.b, .int .i64 x.m]] w fun e w' => e = .returned (.bool (Gm.lftv frm rgt x)) ∧ Below w.heap.size w w' :=
  lift_Plain.calls 4 x.op x.rd x.a x.b x.m _ w (lift_eq x 4 (Nat.le_refl _))
theorem sum_c (l : List Gm.In) (n : Nat) (A : Option Addr) (c : Nat) (w : World) (hn : n = l.length) (hl : n ≤ 1000) (hC : Kd.C k25 w A n (l.map toS)) (hc : n ≤ c) : Calls Try.prog 14 #[.slice A n c] w fun e w' => e = .returned (.int .i64 (sumv (l.map toS))) ∧ Below w.heap.size w w' := by
  subst hn
  have e : l.length = (l.map toS).length := (List.length_map _).symm
  rw [e] at hC hc hl ⊢
  exact grammar_Sum.calls ((l.map toS).length + 10) A c (l.map toS) _ w hC hc (Sum_eq _ (by omega) _ (by omega))
theorem sumv_take (l : List Gm.In) (t : Nat) (h : t < l.length) : sumv ((l.take (t + 1)).map toS) = sumv ((l.take t).map toS) + cst (toS (l.getD t default)) := by
  rw [List.take_add_one, List.getElem?_eq_getElem h, List.map_append, sumv_app, List.getD_eq_getElem?_getD, List.getElem?_eq_getElem h]
  simp [sumv]
set_option maxHeartbeats 8000000 in
set_option maxRecDepth 100000 in
theorem walk_GrammarOnce (A0 : Option Addr) (c0 : Nat) (l0 : List Int) (A1 : Option Addr) (c1 : Nat) (l1 : List Int) (A2 : Option Addr) (c2 : Nat) (l2 : List Int) (len n0 : Int) (W : World)
    (C0 : Kd.C (Kd.int .i64) W A0 l0.length l0) (b0 : l0.length ≤ c0) (m0 : c0 ≤ maxLen) (w0 : ∀ x ∈ l0, (Lit.int .i64 x).wf = true)
    (C1 : Kd.C (Kd.int .i64) W A1 l1.length l1) (b1 : l1.length ≤ c1) (m1 : c1 ≤ maxLen) (w1 : ∀ x ∈ l1, (Lit.int .i64 x).wf = true)
    (C2 : Kd.C (Kd.int .i64) W A2 l2.length l2) (b2 : l2.length ≤ c2) (m2 : c2 ≤ maxLen) (w2 : ∀ x ∈ l2, (Lit.int .i64 x).wf = true) (wl : (Lit.int .i64 len).wf = true) (wn : (Lit.int .i64 n0).wf = true) :
    Calls Try.prog 7 #[.agg #[.slice A0 l0.length c0, .slice A1 l1.length c1, .slice A2 l2.length c2, .int .i64 len], .int .i64 n0] W fun e w' => e = .returned (.bool true) ∧ Below W.heap.size W w' := by
  have HG := Aside0.mk (⟨C0, b0, C1, b1, C2, b2⟩ : GrC W A0 A1 A2 c0 c1 c2 l0 l1 l2)
  have HM := Aside0.mk (And.intro m0 (And.intro m1 m2))
  have HN := Aside0.mk (of_i64 wn)
  clear C0 b0 m0 w0 C1 b1 m1 w1 C2 b2 m2 w2 wl wn
  go_enter Try.func7, Try.ntmps7
  go_wp2_with (go_at_call 16; refine Gm.hold_ ?_)
  intro _
  refine (bound_c HG.out HM.out len _).mono ?_
  rintro e w1 ⟨rfl, hb⟩
  have HL := Aside0.mk (HG.out.tk 6 5 6)
  have hs := tk_small l0 l1 l2
  have hX := (Bx.new W A0 A1 A2 l0.length l1.length l2.length c0 c1 c2 len).below hb
  generalize tk l0 6 = L0 at *
  generalize tk l1 5 = L1 at *
  generalize tk l2 6 = L2 at *
  have HB := Aside0.mk (below_set4 (below_step (below_alloc (Below.refl W.heap.size W) _) hb) (Nat.le_refl W.heap.size) (.slice A0 L0.length c0) (.slice A1 L1.length c1) (.slice A2 L2.length c2) (.int .i64 len))
  have HX := Aside0.mk (hX.set A0 A1 A2 L0.length L1.length L2.length c0 c1 c2 len)
  have HS := Aside0.mk hs
  clear HG HM hs hb
  obtain ⟨⟨k0, k1, k2, k3⟩, ⟨f0, f1, f2, f3⟩, hz⟩ := hX.cells
  clear hX
  go_wp2_with (go_at_call 20; refine Gm.hold_ ?_)
  intro _
  obtain ⟨W2, hW2⟩ : ∃ X, X = ((((w1.setCell ⟨W.heap.size, 0, none⟩ (Value.slice A0 L0.length c0)).setCell ⟨W.heap.size, 1, none⟩ (Value.slice A1 L1.length c1)).setCell ⟨W.heap.size, 2, none⟩ (Value.slice A2 L2.length c2)).setCell ⟨W.heap.size, 3, none⟩ (Value.int IntKind.i64 len)) := ⟨_, rfl⟩
  rw [← hW2] at HB HX ⊢
  clear hW2 k0 k1 k2 k3 f0 f1 f2 f3 hz
  have hco := Count2_c (HL.out.below HB.out) HS.out len
  by_cases hc : chk L0 L1 L2 len = 0
  rotate_left
  · rw [show cnt L0 L1 L2 len = 0 by unfold cnt; rw [if_neg hc]] at hco
    refine hco.mono ?_
    clear hco
    rintro e w3 ⟨rfl, hb⟩
    have NB := Aside0.mk (below_step HB.out hb)
    clear HB HX hb
    have HB := NB
    clear NB
    generalize chk L0 L1 L2 len = q at *
    have hu1 : (q == 0) = false := beq_eq_false_iff_ne.mpr hc
    have hu2 : (q != 0) = true := bne_iff_ne.mpr hc
    clear hc
    go_wp2_with (go_at_call 13; refine Gm.hold_ ?_)
    intro _
    refine (fixed_c _).mono ?_
    rintro e w6 ⟨rfl, hb⟩
    have NB := Aside0.mk (below_step HB.out hb)
    clear HB hb
    go_wp2
    go_ret
    exact ⟨rfl, NB.out⟩
  have hcin := Insts_c (w := W2) (A0 := A0) (A1 := A1) (A2 := A2) (c0 := c0) (c1 := c1) (c2 := c2) (l0 := L0) (l1 := L1) (l2 := L2)
  have hin := fun w hg => Insts_c (w := w) (A0 := A0) (A1 := A1) (A2 := A2) (c0 := c0) (c1 := c1) (c2 := c2) (l0 := L0) (l1 := L1) (l2 := L2) hg (szL_small HS.out) L0.length L1.length L2.length len rfl rfl rfl
  clear hcin
  have hN := ins_len L0 L1 L2 len HS.out.1 HS.out.2.1 HS.out.2.2
  obtain ⟨hl0, hl3⟩ := chk_len L0 L1 L2 len hc
  have hlift := ins_lift L0 L1 L2 len hc
  have hrin := fun n => runR_in L0 L1 L2 len n hc
  have hrun := fun n hn w hg => Run_c (w := w) (A0 := A0) (A1 := A1) (A2 := A2) (c0 := c0) (c1 := c1) (c2 := c2) (l0 := L0) (l1 := L1) (l2 := L2) hg (szL_small HS.out) L0.length L1.length L2.length len n hn rfl rfl rfl
  rw [show cnt L0 L1 L2 len = ((cs (ins L0 L1 L2 len).length (len.toNat + 1) : Nat) : Int) by unfold cnt; rw [if_pos hc], hc] at hco
  obtain ⟨L, rfl⟩ := Int.eq_ofNat_of_zero_le hl0
  rw [Int.toNat_natCast] at hco
  simp only [Int.toNat_natCast] at hrin
  rw [hc] at hin
  generalize ins L0 L1 L2 (L : Int) = l at *
  obtain ⟨N, hNl⟩ : ∃ N, N = l.length := ⟨_, rfl⟩
  rw [← hNl] at hN hin hco hrin
  obtain ⟨n, hn⟩ : ∃ n, n = cs N (L + 1) := ⟨_, rfl⟩
  rw [← hn] at hco hrin
  have hn1 : 1 ≤ n := by rw [hn]; exact Nat.le_trans (show 1 ≤ cs N 1 by simp [cs]) (by have := cs_mono N L 1; rw [Nat.add_comm] at this; exact this)
  have hn2 : n ≤ 20000000000000 := by have := cs_le N hN (L + 1) (by omega); omega
  have HNL := Aside0.mk hNl
  have HNN := Aside0.mk hn
  have HIN := Aside0.mk hin
  have HRUN := Aside0.mk hrun
  have HRIN := Aside0.mk hrin
  have HLIFT := Aside0.mk hlift
  have HL3 : L ≤ 3 := by omega
  clear hin hrun hrin hlift hNl hn hc hl0 hl3
  refine hco.mono ?_
  clear hco
  rintro e w3 ⟨rfl, hb⟩
  have NB := Aside0.mk (below_step HB.out hb)
  have NX := Aside0.mk (HX.out.below hb)
  clear HB HX hb
  have HB := NB
  have HX := NX
  clear NB NX
  obtain ⟨⟨k0, k1, k2, k3⟩, ⟨f0, f1, f2, f3⟩, hz⟩ := HX.out.cells
  go_wp2_with (go_at_call 19; refine Gm.hold_ ?_)
  intro _
  refine (HIN.out _ (HL.out.below HB.out)).mono ?_
  rintro e w4 ⟨Ai, ci, rfl, hC, _, hk, hb⟩
  have HC := Aside0.mk hC
  have HK := Aside0.mk hk
  have NB := Aside0.mk (below_step HB.out hb)
  have NX := Aside0.mk (HX.out.below hb)
  clear HB HX hb hC hk HIN k0 k1 k2 k3 f0 f1 f2 f3 hz
  have HB := NB
  have HX := NX
  clear NB NX
  have ea : Go.bits .and .i64 n0 16777215 = n0 % 16777216 := and_i64 n0 HN.out 24 (by omega)
  clear HN
  obtain ⟨p, hp⟩ : ∃ p : Nat, n0 % 16777216 = (p : Int) := ⟨(n0 % 16777216).toNat, by omega⟩
  rw [hp] at ea
  clear hp
  obtain ⟨s, hs⟩ : ∃ s, s = p % n := ⟨_, rfl⟩
  have hsn : s < n := by rw [hs]; exact Nat.mod_lt _ (by omega)
  have ts : Int.tmod (p : Int) (n : Int) = (s : Int) := by rw [hs, ← Int.ofNat_tmod]
  have ws : IntKind.i64.wrap (s : Int) = (s : Int) := by rw [IntKind.wrap_i64]; omega
  have w40 : IntKind.i64.wrap ((s : Int) + 40) = (s : Int) + 40 := by rw [IntKind.wrap_i64]; omega
  have m0 : ¬ n = 0 := by omega
  have m1 : ¬ (n : Int) = 0 := by omega
  have m2 : ¬ (n : Int) < 1 := by omega
  clear hs
  obtain ⟨bx, hbx⟩ : ∃ b, b = W.heap.size := ⟨_, rfl⟩
  rw [← hbx] at HX ⊢
  clear hbx
  have B4 := HB
  have X4 := HX
  have C4 := HC
  clear HB HX HC
  go_wp2
  go_loopw [9, 11] (fun s9 s11 wr => ∃ la kk : Nat, s9 = .int .i64 la ∧ s11 = .int .i64 kk ∧ s ≤ kk ∧ cs N la ≤ kk ∧ kk ≤ n ∧ Aside0 (Below w4.heap.size w4 wr)) (fun _ s11 _ => n - (intOf s11).toNat)
  case atStart => exact ⟨0, s, rfl, rfl, Nat.le_refl _, Nat.zero_le _, by omega, ⟨Below.refl _ _⟩⟩
  case round =>
    obtain ⟨la, kk, rfl, rfl, hsk, hla, hkn, HR⟩ := hrel
    have HB := Aside0.mk (below_step B4.out HR.out)
    have HX := Aside0.mk (X4.out.below HR.out)
    have HC := Aside0.mk (Kd.C_below C4.out HR.out)
    by_cases h1 : kk < n ∧ kk < s + 40
    · obtain ⟨h1, h2⟩ := h1
      obtain ⟨⟨k0, k1, k2, k3⟩, ⟨f0, f1, f2, f3⟩, hz⟩ := HX.out.cells
      have g1 : (kk : Int) < (n : Int) := by omega
      have g2 : (kk : Int) < (s : Int) + 40 := by omega
      obtain ⟨j, r, _, hj, hr, hrs, hv⟩ := HRIN.out (kk : Int) (by omega) (by omega)
      rw [Int.toNat_natCast] at hrs
      have hr1 := HRUN.out (kk : Int) (by omega)
      rw [hv] at hr1
      have hlaj : la ≤ j := cs_lt N la j kk hla (by show kk < cs N j + N ^ j; omega)
      obtain ⟨X, hX⟩ : ∃ X, X = runL l j r := ⟨_, rfl⟩
      have hXl : X.length = j := by rw [hX]; exact runL_len l j r
      have hXg : ∀ t, t < j → X.getD t default = l.getD (r / N ^ (j - 1 - t) % N) default := by intro t ht; rw [hX, HNL.out]; exact runL_get l j r t ht
      rw [← hX] at hr1
      have HXL := Aside0.mk hXl
      have HXG := Aside0.mk hXg
      have HRR := Aside0.mk hr
      have HRS := Aside0.mk hrs
      rw [show (X, (0 : Int)).1 = X from rfl, show (X, (0 : Int)).2 = 0 from rfl, hXl] at hr1
      have HR1 := Aside0.mk hr1
      clear hr1 hv hX hXg hXl hr hrs
      go_wp2_with (go_at_call 23; refine Gm.hold_ ?_)
      intro _
      refine (HR1.out _ (HL.out.below HB.out)).mono ?_
      rintro e wa ⟨Ax, cx, rfl, hCX, hkx, hb⟩
      have HCX := Aside0.mk hCX
      have HKX := Aside0.mk hkx
      have NR := Aside0.mk (below_step HR.out hb)
      have NX := Aside0.mk (HX.out.below hb)
      have NC := Aside0.mk (Kd.C_below HC.out hb)
      clear HB HX HC HR HR1 hb hCX hkx k0 k1 k2 k3 f0 f1 f2 f3 hz g1
      have HR := NR
      have HX := NX
      have HC := NC
      clear NR NX NC
      obtain ⟨⟨k0, k1, k2, k3⟩, ⟨f0, f1, f2, f3⟩, hz⟩ := HX.out.cells
      have z1 : ¬ (L : Int) < (j : Int) := by omega
      have z2 : ¬ (j : Int) < (la : Int) := by omega
      have pj := pow_le3 N j hN (by omega)
      have hj3 : j ≤ 3 := by omega
      go_wp2
      clear k0 k1 k2 k3 f0 f1 f2 f3 hz z1 z2 HX
      simp only [show decide (L < j) = false from decide_eq_false (by omega), show decide (j < la) = false from decide_eq_false (by omega), Bool.or_false]
      go_loopw [14, 15, 17] (fun s14 s15 s17 wx => ∃ t at_ : Nat, t ≤ j ∧ s17 = .int .i64 t ∧ s15 = .int .i64 at_ ∧ at_ ≤ r / N ^ (j - t) ∧ s14 = .int .i64 (sumv ((X.take t).map toS)) ∧ Aside0 (Below wa.heap.size wa wx)) (fun _ _ s17 _ => j - (intOf s17).toNat)
      case atStart => exact ⟨0, 0, Nat.zero_le _, rfl, rfl, Nat.zero_le _, by simp [sumv], ⟨Below.refl _ _⟩⟩
      case round =>
        obtain ⟨t, at_, htj, rfl, rfl, hat, rfl, HT⟩ := hrel
        by_cases hlt : t < j
        · have hp : 0 < N := by
            rcases Nat.eq_zero_or_pos N with h | h
            · have := HRR.out
              rw [h, Nat.zero_pow (by omega)] at this
              omega
            · exact h
          obtain ⟨q, hq⟩ : ∃ q, q = j - 1 - t := ⟨_, rfl⟩
          obtain ⟨d, hd⟩ : ∃ d, d = r / N ^ q % N := ⟨_, rfl⟩
          have hdN : d < N := by rw [hd]; exact Nat.mod_lt _ hp
          have hx := HXG.out t hlt
          rw [← hq, ← hd] at hx
          have hst := digit_step N r q
          rw [← hd] at hst
          have hle : r / N ^ q ≤ r := Nat.div_le_self _ _
          have hrj := HRR.out
          have e1 : j - t = q + 1 := by omega
          have e2 : j - (t + 1) = q := by omega
          rw [e1] at hat
          have hmul : at_ * N ≤ r / N ^ (q + 1) * N := Nat.mul_le_mul_right _ hat
          obtain ⟨m, hm⟩ : ∃ m, m = at_ * N := ⟨_, rfl⟩
          rw [← hm] at hmul
          obtain ⟨pl, hpl, hplc⟩ := place_c l (by rw [← HNL.out]; exact hN) d (by rw [← HNL.out]; exact hdN)
          have hmem : X.getD t default ∈ l := by
            rw [hx, List.getD_eq_getElem?_getD, List.getElem?_eq_getElem (by rw [← HNL.out]; exact hdN)]
            exact List.getElem_mem _
          have hlf := HLIFT.out _ hmem
          have hs1 := sumv_take X t (by rw [HXL.out]; exact hlt)
          have hr1 := sumv_range ((X.take t).map toS)
          rw [List.length_map, List.length_take] at hr1
          have hc1 := cst_range (toS (X.getD t default))
          obtain ⟨adx, rfl⟩ : ∃ ad, Ax = some ad := by
            obtain ⟨ad, e, _⟩ := at_T25 HCX.out (t : Int) (by omega) (by omega)
            exact ⟨ad, e⟩
          have hA5 := at5_of (Kd.C_below HCX.out HT.out) t hlt HXL.out.symm
          rw [← hx] at hplc
          obtain ⟨sv', hsv'⟩ : ∃ s, s = sumv ((X.take (t + 1)).map toS) := ⟨_, rfl⟩
          obtain ⟨sv, hsv⟩ : ∃ s, s = sumv ((X.take t).map toS) := ⟨_, rfl⟩
          rw [← hsv', ← hsv] at hs1
          rw [← hsv] at hr1 ⊢
          have HSV := Aside0.mk hsv'
          clear hsv hsv'
          have HCO := Aside0.mk (cost_c (X.getD t default))
          have hlc := liftc (X.getD t default)
          rw [hlf] at hlc
          have HLC := Aside0.mk hlc
          have HPL := Aside0.mk hplc
          generalize cst (toS (X.getD t default)) = ct at *
          generalize X.getD t default = x at *
          clear hlc hplc hx hlf hmem hd hq
          have wc : IntKind.i64.wrap (sv + ct) = sv' := by rw [IntKind.wrap_i64]; omega
          have wm : IntKind.i64.wrap ((at_ : Int) * (N : Int)) = (m : Int) := by rw [← Int.natCast_mul, ← hm, IntKind.wrap_i64]; omega
          have wp_ : IntKind.i64.wrap ((m : Int) + (pl : Int)) = ((m + pl : Nat) : Int) := by rw [IntKind.wrap_i64]; omega
          have HA5 := Aside0.mk hA5
          have HCl := Aside0.mk (Kd.C_below HC.out HT.out)
          have hfit : m + pl ≤ r / N ^ q := by omega
          have HFIT := Aside0.mk hfit
          clear hst hA5 hfit hmul hle hs1 hr1 hc1 hm hat hrj e1
          have g9 : (t : Int) < (j : Int) := by omega
          obtain ⟨a0, a1, a2, a3, a4⟩ := HA5.out
          go_wp2_with (go_at_call 11; refine Gm.hold_ ?_)
          intro _
          refine (HCO.out _).mono ?_
          rintro e wb ⟨rfl, hb⟩
          have NT := Aside0.mk (below_step HT.out hb)
          have NA := Aside0.mk (HA5.out.below hb)
          have NL := Aside0.mk (Kd.C_below HCl.out hb)
          clear HT HA5 HCl hb a0 a1 a2 a3 a4
          have HT := NT
          have HA5 := NA
          have HCl := NL
          clear NT NA NL
          obtain ⟨a0, a1, a2, a3, a4⟩ := HA5.out
          go_wp2_with (go_at_call 25; refine Gm.hold_ ?_)
          intro _
          refine (HLC.out _).mono ?_
          rintro e wc ⟨rfl, hb⟩
          have NT := Aside0.mk (below_step HT.out hb)
          have NA := Aside0.mk (HA5.out.below hb)
          have NL := Aside0.mk (Kd.C_below HCl.out hb)
          clear HT HA5 HCl hb a0 a1 a2 a3 a4
          have HT := NT
          have HA5 := NA
          have HCl := NL
          clear NT NA NL
          obtain ⟨a0, a1, a2, a3, a4⟩ := HA5.out
          go_wp2_with (go_at_call 26; refine Gm.hold_ ?_)
          intro _
          refine (HPL.out _ Ai N ci HNL.out HCl.out HK.out).mono ?_
          rintro e wd ⟨rfl, hb⟩
          have NT := Aside0.mk (below_step HT.out hb)
          clear HT HA5 HCl hb a0 a1 a2 a3 a4
          go_wp2
          go_roundw
          case measure => simp [intOf]; omega
          case rel =>
            exact ⟨t + 1, m + pl, hlt, by go_num, by go_num, by rw [e2]; exact HFIT.out, by rw [← HSV.out], NT⟩
        · obtain rfl : t = j := by omega
          rw [Nat.sub_self, Nat.pow_zero, Nat.div_one] at hat
          have hrj := HRR.out
          have htk : X.take t = X := by rw [← HXL.out]; exact List.take_length
          rw [htk]
          go_wp2
          go_loopw [15, 16, 18] (fun s15 s16 s18 wy => ∃ u Q P : Nat, u ≤ t ∧ s18 = .int .i64 u ∧ s15 = .int .i64 Q ∧ s16 = .int .i64 P ∧ Aside0 (Q = at_ + cs N u ∧ P = N ^ u) ∧ Aside0 (Below wa.heap.size wa wy)) (fun _ _ s18 _ => t - (intOf s18).toNat)
          case atStart => exact ⟨0, at_, 1, Nat.zero_le _, rfl, rfl, rfl, ⟨rfl, rfl⟩, HT⟩
          case round =>
            obtain ⟨u, Q, P, hu, rfl, rfl, rfl, HQP, HU⟩ := hrel
            clear HT
            obtain ⟨hQ, hP⟩ := HQP.out
            have pu := pow_le3 N u hN (by omega)
            have pu1 := pow_le3 N (u + 1) hN (by omega)
            have qu := cs_le N hN u (by omega)
            have ecs : cs N (u + 1) = cs N u + N ^ u := rfl
            have epw : N ^ (u + 1) = N ^ u * N := Nat.pow_succ N u
            obtain ⟨P1, hP1⟩ : ∃ P, P = N ^ (u + 1) := ⟨_, rfl⟩
            rw [← hP1, ← hP] at epw
            rw [← hP] at ecs pu
            rw [← hP1] at pu1
            have HP1 := Aside0.mk hP1
            clear hP1
            by_cases hlu : u < t
            · have y1 : IntKind.i64.wrap ((Q : Int) + (P : Int)) = ((Q + P : Nat) : Int) := by rw [IntKind.wrap_i64]; omega
              have y2 : IntKind.i64.wrap ((P : Int) * (N : Int)) = (P1 : Int) := by rw [← Int.natCast_mul, ← epw, IntKind.wrap_i64]; omega
              have g9 : (u : Int) < (t : Int) := by omega
              clear hQ hP epw ecs pu pu1 qu
              go_wp2
              go_roundw
              case rel => exact ⟨u + 1, Q + P, P1, hlu, by go_num, rfl, rfl, ⟨by show Q + P = at_ + (cs N u + N ^ u); rw [HQP.out.1, HQP.out.2, Nat.add_assoc], HP1.out⟩, HU⟩
              case measure => simp [intOf]; omega
            · obtain rfl : u = t := by omega
              have hQk : ¬ (kk : Int) < (Q : Int) := by have := HRS.out; omega
              clear hQ hP epw ecs pu pu1 qu
              go_wp2_with (go_at_call 14; refine Gm.hold_ ?_)
              intro _
              refine (sum_c X u Ax cx _ HXL.out.symm (by omega) (Kd.C_below HCX.out HU.out) HKX.out).mono ?_
              rintro e we ⟨rfl, hb⟩
              have NU := Aside0.mk (below_step HR.out (below_step HU.out hb))
              clear HU hb
              have wk1 : IntKind.i64.wrap ((kk : Int) + 1) = (kk : Int) + 1 := by rw [IntKind.wrap_i64]; omega
              go_wp2
              go_roundw
              case rel => exact ⟨u, kk + 1, rfl, by go_num, by omega, by have := HRS.out; omega, h1, NU⟩
              case measure => simp [intOf]; omega
    · have hfin : ((kk : Int) < (n : Int) ∧ ¬ (kk : Int) < (s : Int) + 40) ∨ ¬ (kk : Int) < (n : Int) := by omega
      rcases hfin with ⟨g1, g2⟩ | g1
      all_goals
        go_wp2_with (go_at_call 13; refine Gm.hold_ ?_)
        intro _
        refine (fixed_c _).mono ?_
        rintro e w6 ⟨rfl, hb⟩
        have NB := Aside0.mk (below_step HB.out hb)
        clear HB hb
        go_wp2
        go_ret
        exact ⟨rfl, NB.out⟩
end Go.Proofs.Ytcjbdfhofpfooaa.Q
