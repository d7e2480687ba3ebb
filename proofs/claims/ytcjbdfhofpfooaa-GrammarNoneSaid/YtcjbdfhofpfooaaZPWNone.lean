import Derived.Test.YtcjbdfhofpfooaaZQx0
import Derived.Test.YtcjbdfhofpfooaaZQx7
import Derived.Test.YtcjbdfhofpfooaaZQx8
import Derived.Test.YtcjbdfhofpfooaaZPD
import Derived.WalkKit
import Derived.Outline
namespace Go.Proofs.Ytcjbdfhofpfooaa.Q
open Go.RowKit Go.Proofs.YtcjbdfhofpfooaaW.PrintWords Go.Proofs.YtcjbdfhofpfooaaW.PrintLast Go.Proofs.YtcjbdfhofpfooaaW.PrintMore
set_option linter.unusedVariables false
set_option linter.unusedSimpArgs false
attribute [local go_sem] max2_int min2_int max_two min_two max_three min_three max_four min_four
attribute [local go_sem] imax_u32 imax_u8 isg_u32 isg_u8
theorem cs_zero : ∀ n : Nat, cs 0 (n + 1) = 1 := by
  intro n
  induction n with
  | zero => rfl
  | succ n ih => show cs 0 (n + 1) + 0 ^ (n + 1) = 1; rw [ih, Nat.zero_pow (by omega)]
theorem none_cs (L0 L1 L2 : List Int) (len : Int) (h : L0 = [] ∨ L1 = [] ∨ len = 0) (hc : chk L0 L1 L2 len = 0) : cs (ins L0 L1 L2 len).length (len.toNat + 1) = 1 := by
  rcases h with rfl | rfl | rfl
  · have e : ins [] L1 L2 len = [] := by unfold ins Gm.insv Gm.allL; simp
    rw [e]; exact cs_zero _
  · have e : ins L0 [] L2 len = [] := by
      unfold ins Gm.insv Gm.allL Gm.row1
      simp
    rw [e]; exact cs_zero _
  · rfl
theorem none_prop (L0 L1 L2 : List Int) (len : Int) (h : L0 = [] ∨ L1 = [] ∨ len = 0) (hc : chk L0 L1 L2 len = 0) : cnt L0 L1 L2 len = 1 ∧ runR L0 L1 L2 len 0 = ([], 0) ∧ runR L0 L1 L2 len 1 = ([], 1) := by
  have e := none_cs L0 L1 L2 len h hc
  refine ⟨by unfold cnt; rw [if_pos hc, e]; rfl, ?_, runR_out L0 L1 L2 len 1 hc (by right; rw [e]; decide)⟩
  obtain ⟨j, r, h1, h2, h3, h4, h5⟩ := runR_in L0 L1 L2 len 0 hc (by omega) (by rw [e]; decide)
  rw [h5]
  have hj : j = 0 := by
    match j, h4 with
    | 0, _ => rfl
    | j + 1, h4 =>
      exfalso
      have : 1 ≤ cs (ins L0 L1 L2 len).length (j + 1) := by
        clear h1 h2 h3 h4 h5 e
        induction j with
        | zero => simp [cs]
        | succ j ih => exact Nat.le_trans ih (Nat.le_add_right _ _)
      simp at h4
      omega
  subst hj
  rfl
theorem none_vals (L0 L1 L2 : List Int) (len : Int) (h : L0 = [] ∨ L1 = [] ∨ len = 0) : (chk L0 L1 L2 len = 0 ∧ cnt L0 L1 L2 len = 1 ∧ runR L0 L1 L2 len 0 = ([], 0) ∧ runR L0 L1 L2 len 1 = ([], 1)) ∨ (∃ q, q ≠ 0 ∧ chk L0 L1 L2 len = q ∧ cnt L0 L1 L2 len = 0 ∧ runR L0 L1 L2 len 0 = ([], q) ∧ runR L0 L1 L2 len 1 = ([], q)) := by
  by_cases hc : chk L0 L1 L2 len = 0
  · exact Or.inl ⟨hc, none_prop L0 L1 L2 len h hc⟩
  · exact Or.inr ⟨_, hc, rfl, by unfold cnt; rw [if_neg hc], runR_none L0 L1 L2 len 0 hc, runR_none L0 L1 L2 len 1 hc⟩
theorem Bx.set0 {w : World} {b : Nat} {A0 A1 A2 : Option Addr} {m0 m1 m2 c0 c1 c2 : Nat} {len : Int} (h : Bx w b A0 A1 A2 m0 m1 m2 c0 c1 c2 len) : Bx (w.setCell ⟨b, 0, none⟩ (.slice none 0 0)) b none A1 A2 0 m1 m2 0 c1 c2 len := blk_put h 0 _ rfl
theorem Bx.set1 {w : World} {b : Nat} {A0 A1 A2 : Option Addr} {m0 m1 m2 c0 c1 c2 : Nat} {len : Int} (h : Bx w b A0 A1 A2 m0 m1 m2 c0 c1 c2 len) : Bx (w.setCell ⟨b, 1, none⟩ (.slice none 0 0)) b A0 none A2 m0 0 m2 c0 0 c2 len := blk_put h 1 _ rfl
theorem Bx.set3 {w : World} {b : Nat} {A0 A1 A2 : Option Addr} {m0 m1 m2 c0 c1 c2 : Nat} {len : Int} (h : Bx w b A0 A1 A2 m0 m1 m2 c0 c1 c2 len) (n : Int) : Bx (w.setCell ⟨b, 3, none⟩ (.int .i64 n)) b A0 A1 A2 m0 m1 m2 c0 c1 c2 n := blk_put h 3 _ rfl
set_option maxHeartbeats 8000000 in
set_option maxRecDepth 100000 in
theorem walk_GrammarNone (A0 : Option Addr) (c0 : Nat) (l0 : List Int) (A1 : Option Addr) (c1 : Nat) (l1 : List Int) (A2 : Option Addr) (c2 : Nat) (l2 : List Int) (len which : Int) (W : World)
    (C0 : Kd.C (Kd.int .i64) W A0 l0.length l0) (b0 : l0.length ≤ c0) (m0 : c0 ≤ maxLen) (w0 : ∀ x ∈ l0, (Lit.int .i64 x).wf = true)
    (C1 : Kd.C (Kd.int .i64) W A1 l1.length l1) (b1 : l1.length ≤ c1) (m1 : c1 ≤ maxLen) (w1 : ∀ x ∈ l1, (Lit.int .i64 x).wf = true)
    (C2 : Kd.C (Kd.int .i64) W A2 l2.length l2) (b2 : l2.length ≤ c2) (m2 : c2 ≤ maxLen) (w2 : ∀ x ∈ l2, (Lit.int .i64 x).wf = true) (wl : (Lit.int .i64 len).wf = true) (wn : (Lit.int .i64 which).wf = true) :
    Calls Try.prog 8 #[.agg #[.slice A0 l0.length c0, .slice A1 l1.length c1, .slice A2 l2.length c2, .int .i64 len], .int .i64 which] W fun e w' => e = .returned (.bool true) ∧ Below W.heap.size W w' := by
  have HG := Aside0.mk (⟨C0, b0, C1, b1, C2, b2⟩ : GrC W A0 A1 A2 c0 c1 c2 l0 l1 l2)
  have HM := Aside0.mk (And.intro m0 (And.intro m1 m2))
  have HN := Aside0.mk (of_i64 wn)
  clear C0 b0 m0 w0 C1 b1 m1 w1 C2 b2 m2 w2 wl wn
  go_enter Try.func8, Try.ntmps8
  go_wp2_with (go_at_call 16; refine Gm.hold_ ?_)
  intro _
  refine (bound_c HG.out HM.out len _).mono ?_
  rintro e w1 ⟨rfl, hb⟩
  have HL := Aside0.mk (HG.out.tk 6 5 6)
  have hs := tk_small l0 l1 l2
  have hX := (Bx.new W A0 A1 A2 l0.length l1.length l2.length c0 c1 c2 len).below hb
  generalize tk l0 6 = L0 at *
  generalize tk l1 5 = L1 at *
  generalize tk l2 6 = L2 at *
  have HB := Aside0.mk (below_set4 (below_step (below_alloc (Below.refl W.heap.size W) _) hb) (Nat.le_refl W.heap.size) (.slice A0 L0.length c0) (.slice A1 L1.length c1) (.slice A2 L2.length c2) (.int .i64 len))
  have HX := Aside0.mk (hX.set A0 A1 A2 L0.length L1.length L2.length c0 c1 c2 len)
  have HS := Aside0.mk hs
  clear HG HM hs hb
  have hw := and_i64 which HN.out 2 (by omega)
  have hand : Go.bits .and .i64 which 3 = which % 4 := hw
  clear hw HN
  have hr : 0 ≤ which % 4 ∧ which % 4 < 4 := by omega
  generalize which % 4 = q at hand hr
  obtain ⟨⟨k0, k1, k2, k3⟩, ⟨f0, f1, f2, f3⟩, hz⟩ := hX.cells
  clear hX
  go_wp2_with ((with_reducible refine gate_dst (N := 17) rfl ?_); refine Gm.hold_ ?_)
  intro _
  obtain ⟨W2, hW2⟩ : ∃ X, X = ((((w1.setCell ⟨W.heap.size, 0, none⟩ (Value.slice A0 L0.length c0)).setCell ⟨W.heap.size, 1, none⟩ (Value.slice A1 L1.length c1)).setCell ⟨W.heap.size, 2, none⟩ (Value.slice A2 L2.length c2)).setCell ⟨W.heap.size, 3, none⟩ (Value.int IntKind.i64 len)) := ⟨_, rfl⟩
  rw [← hW2] at HB HX ⊢
  clear hW2 k0 k1 k2 k3 f0 f1 f2 f3 hz
  obtain ⟨⟨k0, k1, k2, k3⟩, ⟨f0, f1, f2, f3⟩, hz⟩ := HX.out.cells
  rcases (by omega : q = 0 ∨ q = 1 ∨ (q ≠ 0 ∧ q ≠ 1)) with rfl | rfl | ⟨q0, q1⟩
  · go_wp2_with (go_at_call 20; refine Gm.hold_ ?_)
    intro _
    have hB := HB.out.setCell (p := ⟨W.heap.size, 0, none⟩) (Nat.le_refl W.heap.size) (.slice none 0 0)
    have hX := HX.out.set0
    have HL' := Aside0.mk ((⟨kc_nil, Nat.zero_le _, HL.out.h1, HL.out.k1, HL.out.h2, HL.out.k2⟩ : GrC W none A1 A2 0 c1 c2 [] L1 L2))
    have HS' := Aside0.mk (show ([] : List Int).length ≤ 6 ∧ L1.length ≤ 6 ∧ L2.length ≤ 6 from ⟨Nat.zero_le _, HS.out.2⟩)
    clear k0 k1 k2 k3 f0 f1 f2 f3 hz
    have hcn := Count2_c (HL'.out.below hB) HS'.out len
    have hr0 := fun w hg => Run_c (w := w) (A0 := none) (A1 := A1) (A2 := A2) (c0 := 0) (c1 := c1) (c2 := c2) (l0 := ([] : List Int)) (l1 := L1) (l2 := L2) hg (szL_small HS'.out) ([] : List Int).length L1.length L2.length len 0 (by decide) rfl rfl rfl
    have hr1 := fun w hg => Run_c (w := w) (A0 := none) (A1 := A1) (A2 := A2) (c0 := 0) (c1 := c1) (c2 := c2) (l0 := ([] : List Int)) (l1 := L1) (l2 := L2) hg (szL_small HS'.out) ([] : List Int).length L1.length L2.length len 1 (by decide) rfl rfl rfl
    rcases none_vals ([] : List Int) L1 L2 len (Or.inl rfl) with ⟨e1, e2, e3, e4⟩ | ⟨u, hu, e1, e2, e3, e4⟩
    all_goals
      rw [e1, e2] at hcn
      rw [e3] at hr0
      rw [e4] at hr1
      simp only [List.length_nil] at hr0 hr1
      have HR0 := Aside0.mk hr0
      have HR1 := Aside0.mk hr1
      clear hr0 hr1 e1 e2 e3 e4
      refine hcn.mono ?_
      clear hcn
      rintro e w3 ⟨rfl, hb⟩
      have NB := Aside0.mk (below_step hB hb)
      have NX := Aside0.mk (hX.below hb)
      clear HB HX hb hB hX
      have HB := NB
      have HX := NX
      clear NB NX
      obtain ⟨⟨k0, k1, k2, k3⟩, ⟨f0, f1, f2, f3⟩, hz⟩ := HX.out.cells
      go_wp2_with (go_at_call 23; refine Gm.hold_ ?_)
      intro _
      refine (HR0.out _ (HL'.out.below HB.out)).mono ?_
      rintro e w4 ⟨Aa, ca, rfl, _, _, hb⟩
      have NB := Aside0.mk (below_step HB.out hb)
      have NX := Aside0.mk (HX.out.below hb)
      clear HB HX hb k0 k1 k2 k3 f0 f1 f2 f3 hz
      have HB := NB
      have HX := NX
      clear NB NX
      obtain ⟨⟨k0, k1, k2, k3⟩, ⟨f0, f1, f2, f3⟩, hz⟩ := HX.out.cells
      go_wp2_with (go_at_call 23; refine Gm.hold_ ?_)
      intro _
      refine (HR1.out _ (HL'.out.below HB.out)).mono ?_
      rintro e w5 ⟨Ab, cb, rfl, _, _, hb⟩
      have NB := Aside0.mk (below_step HB.out hb)
      clear HB HX hb k0 k1 k2 k3 f0 f1 f2 f3 hz
      have HB := NB
      clear NB
      first
      | have hu1 : (u == 0) = false := beq_eq_false_iff_ne.mpr hu
        have hu2 : (u != 0) = true := bne_iff_ne.mpr hu
      | skip
      go_wp2_with (go_at_call 13; refine Gm.hold_ ?_)
      intro _
      refine (fixed_c _).mono ?_
      rintro e w6 ⟨rfl, hb⟩
      have NB := Aside0.mk (below_step HB.out hb)
      clear HB hb
      go_wp2
      go_ret
      exact ⟨rfl, NB.out⟩
  · go_wp2_with (go_at_call 20; refine Gm.hold_ ?_)
    intro _
    have hB := HB.out.setCell (p := ⟨W.heap.size, 1, none⟩) (Nat.le_refl W.heap.size) (.slice none 0 0)
    have hX := HX.out.set1
    have HL' := Aside0.mk ((⟨HL.out.h0, HL.out.k0, kc_nil, Nat.zero_le _, HL.out.h2, HL.out.k2⟩ : GrC W A0 none A2 c0 0 c2 L0 [] L2))
    have HS' := Aside0.mk (show L0.length ≤ 6 ∧ ([] : List Int).length ≤ 6 ∧ L2.length ≤ 6 from ⟨HS.out.1, Nat.zero_le _, HS.out.2.2⟩)
    clear k0 k1 k2 k3 f0 f1 f2 f3 hz
    have hcn := Count2_c (HL'.out.below hB) HS'.out len
    have hr0 := fun w hg => Run_c (w := w) (A0 := A0) (A1 := none) (A2 := A2) (c0 := c0) (c1 := 0) (c2 := c2) (l0 := L0) (l1 := ([] : List Int)) (l2 := L2) hg (szL_small HS'.out) L0.length ([] : List Int).length L2.length len 0 (by decide) rfl rfl rfl
    have hr1 := fun w hg => Run_c (w := w) (A0 := A0) (A1 := none) (A2 := A2) (c0 := c0) (c1 := 0) (c2 := c2) (l0 := L0) (l1 := ([] : List Int)) (l2 := L2) hg (szL_small HS'.out) L0.length ([] : List Int).length L2.length len 1 (by decide) rfl rfl rfl
    rcases none_vals L0 ([] : List Int) L2 len (Or.inr (Or.inl rfl)) with ⟨e1, e2, e3, e4⟩ | ⟨u, hu, e1, e2, e3, e4⟩
    all_goals
      rw [e1, e2] at hcn
      rw [e3] at hr0
      rw [e4] at hr1
      simp only [List.length_nil] at hr0 hr1
      have HR0 := Aside0.mk hr0
      have HR1 := Aside0.mk hr1
      clear hr0 hr1 e1 e2 e3 e4
      refine hcn.mono ?_
      clear hcn
      rintro e w3 ⟨rfl, hb⟩
      have NB := Aside0.mk (below_step hB hb)
      have NX := Aside0.mk (hX.below hb)
      clear HB HX hb hB hX
      have HB := NB
      have HX := NX
      clear NB NX
      obtain ⟨⟨k0, k1, k2, k3⟩, ⟨f0, f1, f2, f3⟩, hz⟩ := HX.out.cells
      go_wp2_with (go_at_call 23; refine Gm.hold_ ?_)
      intro _
      refine (HR0.out _ (HL'.out.below HB.out)).mono ?_
      rintro e w4 ⟨Aa, ca, rfl, _, _, hb⟩
      have NB := Aside0.mk (below_step HB.out hb)
      have NX := Aside0.mk (HX.out.below hb)
      clear HB HX hb k0 k1 k2 k3 f0 f1 f2 f3 hz
      have HB := NB
      have HX := NX
      clear NB NX
      obtain ⟨⟨k0, k1, k2, k3⟩, ⟨f0, f1, f2, f3⟩, hz⟩ := HX.out.cells
      go_wp2_with (go_at_call 23; refine Gm.hold_ ?_)
      intro _
      refine (HR1.out _ (HL'.out.below HB.out)).mono ?_
      rintro e w5 ⟨Ab, cb, rfl, _, _, hb⟩
      have NB := Aside0.mk (below_step HB.out hb)
      clear HB HX hb k0 k1 k2 k3 f0 f1 f2 f3 hz
      have HB := NB
      clear NB
      first
      | have hu1 : (u == 0) = false := beq_eq_false_iff_ne.mpr hu
        have hu2 : (u != 0) = true := bne_iff_ne.mpr hu
      | skip
      go_wp2_with (go_at_call 13; refine Gm.hold_ ?_)
      intro _
      refine (fixed_c _).mono ?_
      rintro e w6 ⟨rfl, hb⟩
      have NB := Aside0.mk (below_step HB.out hb)
      clear HB hb
      go_wp2
      go_ret
      exact ⟨rfl, NB.out⟩
  · have q2 : (q == 0) = false := beq_eq_false_iff_ne.mpr q0
    have q3 : (q == 1) = false := beq_eq_false_iff_ne.mpr q1
    go_wp2_with (go_at_call 20; refine Gm.hold_ ?_)
    intro _
    have hB := HB.out.setCell (p := ⟨W.heap.size, 3, none⟩) (Nat.le_refl W.heap.size) (.int .i64 0)
    have hX := HX.out.set3 0
    have HL' := Aside0.mk (HL.out)
    have HS' := Aside0.mk (show L0.length ≤ 6 ∧ L1.length ≤ 6 ∧ L2.length ≤ 6 from HS.out)
    clear k0 k1 k2 k3 f0 f1 f2 f3 hz
    have hcn := Count2_c (HL'.out.below hB) HS'.out 0
    have hr0 := fun w hg => Run_c (w := w) (A0 := A0) (A1 := A1) (A2 := A2) (c0 := c0) (c1 := c1) (c2 := c2) (l0 := L0) (l1 := L1) (l2 := L2) hg (szL_small HS'.out) L0.length L1.length L2.length 0 0 (by decide) rfl rfl rfl
    have hr1 := fun w hg => Run_c (w := w) (A0 := A0) (A1 := A1) (A2 := A2) (c0 := c0) (c1 := c1) (c2 := c2) (l0 := L0) (l1 := L1) (l2 := L2) hg (szL_small HS'.out) L0.length L1.length L2.length 0 1 (by decide) rfl rfl rfl
    rcases none_vals L0 L1 L2 0 (Or.inr (Or.inr rfl)) with ⟨e1, e2, e3, e4⟩ | ⟨u, hu, e1, e2, e3, e4⟩
    all_goals
      rw [e1, e2] at hcn
      rw [e3] at hr0
      rw [e4] at hr1
      simp only [List.length_nil] at hr0 hr1
      have HR0 := Aside0.mk hr0
      have HR1 := Aside0.mk hr1
      clear hr0 hr1 e1 e2 e3 e4
      refine hcn.mono ?_
      clear hcn
      rintro e w3 ⟨rfl, hb⟩
      have NB := Aside0.mk (below_step hB hb)
      have NX := Aside0.mk (hX.below hb)
      clear HB HX hb hB hX
      have HB := NB
      have HX := NX
      clear NB NX
      obtain ⟨⟨k0, k1, k2, k3⟩, ⟨f0, f1, f2, f3⟩, hz⟩ := HX.out.cells
      go_wp2_with (go_at_call 23; refine Gm.hold_ ?_)
      intro _
      refine (HR0.out _ (HL'.out.below HB.out)).mono ?_
      rintro e w4 ⟨Aa, ca, rfl, _, _, hb⟩
      have NB := Aside0.mk (below_step HB.out hb)
      have NX := Aside0.mk (HX.out.below hb)
      clear HB HX hb k0 k1 k2 k3 f0 f1 f2 f3 hz
      have HB := NB
      have HX := NX
      clear NB NX
      obtain ⟨⟨k0, k1, k2, k3⟩, ⟨f0, f1, f2, f3⟩, hz⟩ := HX.out.cells
      go_wp2_with (go_at_call 23; refine Gm.hold_ ?_)
      intro _
      refine (HR1.out _ (HL'.out.below HB.out)).mono ?_
      rintro e w5 ⟨Ab, cb, rfl, _, _, hb⟩
      have NB := Aside0.mk (below_step HB.out hb)
      clear HB HX hb k0 k1 k2 k3 f0 f1 f2 f3 hz
      have HB := NB
      clear NB
      first
      | have hu1 : (u == 0) = false := beq_eq_false_iff_ne.mpr hu
        have hu2 : (u != 0) = true := bne_iff_ne.mpr hu
      | skip
      go_wp2_with (go_at_call 13; refine Gm.hold_ ?_)
      intro _
      refine (fixed_c _).mono ?_
      rintro e w6 ⟨rfl, hb⟩
      have NB := Aside0.mk (below_step HB.out hb)
      clear HB hb
      go_wp2
      go_ret
      exact ⟨rfl, NB.out⟩
end Go.Proofs.Ytcjbdfhofpfooaa.Q
