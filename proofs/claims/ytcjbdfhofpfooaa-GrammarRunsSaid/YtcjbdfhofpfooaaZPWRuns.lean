import Derived.Test.YtcjbdfhofpfooaaZQx0
import Derived.Test.YtcjbdfhofpfooaaZQx8
import Derived.Test.YtcjbdfhofpfooaaZPD
import Derived.WalkKit
import Derived.Outline
namespace Go.Proofs.Ytcjbdfhofpfooaa.Q
open Go.RowKit Go.Proofs.YtcjbdfhofpfooaaW.PrintWords Go.Proofs.YtcjbdfhofpfooaaW.PrintLast Go.Proofs.YtcjbdfhofpfooaaW.PrintMore
set_option linter.unusedVariables false
set_option linter.unusedSimpArgs false
attribute [local go_sem] max2_int min2_int max_two min_two max_three min_three max_four min_four
attribute [local go_sem] imax_u32 imax_u8 isg_u32 isg_u8
set_option maxHeartbeats 8000000 in
set_option maxRecDepth 100000 in
theorem walk_GrammarRuns (A0 : Option Addr) (c0 : Nat) (l0 : List Int) (A1 : Option Addr) (c1 : Nat) (l1 : List Int) (A2 : Option Addr) (c2 : Nat) (l2 : List Int) (len n : Int) (W : World)
    (C0 : Kd.C (Kd.int .i64) W A0 l0.length l0) (b0 : l0.length ≤ c0) (m0 : c0 ≤ maxLen) (w0 : ∀ x ∈ l0, (Lit.int .i64 x).wf = true)
    (C1 : Kd.C (Kd.int .i64) W A1 l1.length l1) (b1 : l1.length ≤ c1) (m1 : c1 ≤ maxLen) (w1 : ∀ x ∈ l1, (Lit.int .i64 x).wf = true)
    (C2 : Kd.C (Kd.int .i64) W A2 l2.length l2) (b2 : l2.length ≤ c2) (m2 : c2 ≤ maxLen) (w2 : ∀ x ∈ l2, (Lit.int .i64 x).wf = true) (wl : (Lit.int .i64 len).wf = true) (wn : (Lit.int .i64 n).wf = true) :
    Calls Try.prog 5 #[.agg #[.slice A0 l0.length c0, .slice A1 l1.length c1, .slice A2 l2.length c2, .int .i64 len], .int .i64 n] W fun e w' => e = .returned (.bool true) ∧ Below W.heap.size W w' := by
  have HG := Aside0.mk (⟨C0, b0, C1, b1, C2, b2⟩ : GrC W A0 A1 A2 c0 c1 c2 l0 l1 l2)
  have HM := Aside0.mk (And.intro m0 (And.intro m1 m2))
  have HN := Aside0.mk (of_i64 wn)
  clear C0 b0 m0 w0 C1 b1 m1 w1 C2 b2 m2 w2 wl wn
  go_enter Try.func5, Try.ntmps5
  go_wp2_with (go_at_call 16; refine Gm.hold_ ?_)
  intro _
  refine (bound_c HG.out HM.out len _).mono ?_
  rintro e w1 ⟨rfl, hb⟩
  have HL := Aside0.mk (HG.out.tk 6 5 6)
  have hs := tk_small l0 l1 l2
  have hX := (Bx.new W A0 A1 A2 l0.length l1.length l2.length c0 c1 c2 len).below hb
  generalize tk l0 6 = L0 at *
  generalize tk l1 5 = L1 at *
  generalize tk l2 6 = L2 at *
  have HB := Aside0.mk (below_set4 (below_step (below_alloc (Below.refl W.heap.size W) _) hb) (Nat.le_refl W.heap.size) (.slice A0 L0.length c0) (.slice A1 L1.length c1) (.slice A2 L2.length c2) (.int .i64 len))
  have HX := Aside0.mk (hX.set A0 A1 A2 L0.length L1.length L2.length c0 c1 c2 len)
  have HS := Aside0.mk hs
  clear HG HM hs hb
  obtain ⟨⟨k0, k1, k2, k3⟩, ⟨f0, f1, f2, f3⟩, hz⟩ := hX.cells
  clear hX
  go_wp2_with (go_at_call 23; refine Gm.hold_ ?_)
  intro _
  obtain ⟨W2, hW2⟩ : ∃ X, X = ((((w1.setCell ⟨W.heap.size, 0, none⟩ (Value.slice A0 L0.length c0)).setCell ⟨W.heap.size, 1, none⟩ (Value.slice A1 L1.length c1)).setCell ⟨W.heap.size, 2, none⟩ (Value.slice A2 L2.length c2)).setCell ⟨W.heap.size, 3, none⟩ (Value.int IntKind.i64 len)) := ⟨_, rfl⟩
  rw [← hW2] at HB HX ⊢
  clear hW2 k0 k1 k2 k3 f0 f1 f2 f3 hz
  refine (Run_c (HL.out.below HB.out) (szL_small HS.out) L0.length L1.length L2.length len n HN.out.2 rfl rfl rfl).mono ?_
  have hlen := runR_len HS.out len n
  rintro e w3 ⟨Aa, ca, rfl, hA, hk, hb⟩
  have NB := Aside0.mk (below_step HB.out hb)
  have NX := Aside0.mk (HX.out.below hb)
  have HA := Aside0.mk hA
  have HKA := Aside0.mk hk
  have HLEN := Aside0.mk hlen
  clear HB HX hb hA hk hlen
  have HB := NB
  have HX := NX
  clear NB NX
  obtain ⟨⟨k0, k1, k2, k3⟩, ⟨f0, f1, f2, f3⟩, hz⟩ := HX.out.cells
  go_wp2_with (go_at_call 24; refine Gm.hold_ ?_)
  intro _
  refine (rRun_c (HL.out.below HB.out) HS.out len n).mono ?_
  rintro e w4 ⟨Ab, cb, rfl, hB2, hk2, hb⟩
  have HA2 := Aside0.mk (Kd.C_below HA.out hb)
  have HB2 := Aside0.mk hB2
  have HKB := Aside0.mk hk2
  have NB := Aside0.mk (below_step HB.out hb)
  clear HB HX hb hB2 hk2 HA k0 k1 k2 k3 f0 f1 f2 f3 hz
  have HB := NB
  clear NB
  go_wp2_with (go_at_call 13; refine Gm.hold_ ?_)
  intro _
  refine (fixed_c _).mono ?_
  rintro e w5 ⟨rfl, hb⟩
  have HA := Aside0.mk (Kd.C_below HA2.out hb)
  have HB3 := Aside0.mk (Kd.C_below HB2.out hb)
  have NB := Aside0.mk (below_step HB.out hb)
  clear HB hb HA2 HB2
  have HB := NB
  clear NB
  go_wp2_with (go_at_call 21; refine Gm.hold_ ?_)
  intro _
  refine (Same_c Aa Ab ca cb _ (runR L0 L1 L2 len n).1 HA.out HB3.out rfl HKA.out HKB.out (by have := HLEN.out; omega)).mono ?_
  rintro e w6 ⟨rfl, hb⟩
  have NB := Aside0.mk (below_step HB.out hb)
  clear HB hb
  go_wp2
  go_ret
  exact ⟨rfl, NB.out⟩
end Go.Proofs.Ytcjbdfhofpfooaa.Q
