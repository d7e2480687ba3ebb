import Derived.Test.YtcjbdfhofpfooaaZQx0
import Derived.Test.YtcjbdfhofpfooaaZQx7
import Derived.Test.YtcjbdfhofpfooaaZQx8
import Derived.Test.YtcjbdfhofpfooaaZPWNone
import Derived.LoopTactic
import Derived.Deep.LoopGhost
import Derived.IntWalk
import Derived.WalkKit
import Derived.Outline
namespace Go.Proofs.Ytcjbdfhofpfooaa.Q
open Go.RowKit Go.Proofs.YtcjbdfhofpfooaaW.PrintWords Go.Proofs.YtcjbdfhofpfooaaW.PrintLast Go.Proofs.YtcjbdfhofpfooaaW.PrintMore
set_option linter.unusedVariables false
set_option linter.unusedSimpArgs false
attribute [local go_sem] max2_int min2_int max_two min_two max_three min_three max_four min_four
attribute [local go_sem] imax_u32 imax_u8 isg_u32 isg_u8
def Raw (W : World) (base N : Nat) (v : Value) : Prop := ∃ cs, W.ownsRow base 25 5 v N cs
theorem raw_of {w : World} {base : Nat} {ok : Nat → Prop} {v : Value} {xs : List S25} (h : Kd.R k25 25 w base ok v xs) : Raw w base xs.length v := by
  obtain ⟨_, cs, h1, _⟩ := h
  exact ⟨cs, h1⟩
theorem raw_some {W : World} {base N : Nat} {A : Option Addr} {c : Nat} (h : Raw W base N (.slice A N c)) (hp : 0 < N) : ∃ g, A = some ⟨g, 0, none⟩ ∧ base ≤ g ∧ g < W.heap.size := by
  obtain ⟨cs, h1⟩ := h
  rcases h1.2 with ⟨h2, _⟩ | ⟨g, cap, cur, h2, hb, hg, _⟩
  · cases h2
    omega
  · cases h2
    exact ⟨g, rfl, hb, (Array.getElem?_eq_some_iff.1 hg).1⟩
theorem raw_cell {W : World} {base N g c : Nat} (h : Raw W base N (.slice (some ⟨g, 0, none⟩) N c)) (j : Nat) (hj : j < N * 5) : (∃ u, W.cell? ⟨g, j, none⟩ = some u) ∧ W.frozen? ⟨g, j, none⟩ = false := by
  obtain ⟨cs, h1⟩ := h
  have hl := h1.1
  have e := World.ownsRow.cellAt h1 j hj
  exact ⟨⟨cs[j]'(by omega), by rw [e, List.getElem?_eq_getElem (by omega)]⟩, World.ownsRow.frozenAt h1 j⟩
theorem raw_set {W : World} {base N g c : Nat} (h : Raw W base N (.slice (some ⟨g, 0, none⟩) N c)) (j : Nat) (u : Value) : Raw (W.setCell ⟨g, j, none⟩ u) base N (.slice (some ⟨g, 0, none⟩) N c) := by
  obtain ⟨cs, h1⟩ := h
  exact ⟨_, (World.ownsRow.stored h1 j u).1⟩
theorem raw_below {W W' : World} {base N : Nat} {v : Value} (h : Raw W base N v) (hb : Below W.heap.size W W') : Raw W' base N v := by
  obtain ⟨cs, h1⟩ := h
  refine ⟨cs, own_move h1 fun k hk => hb.block k ?_⟩
  exact (World.ownsRow.lt h1 k hk).2
set_option maxHeartbeats 8000000 in
set_option maxRecDepth 100000 in
theorem walk_GrammarInsts (A0 : Option Addr) (c0 : Nat) (l0 : List Int) (A1 : Option Addr) (c1 : Nat) (l1 : List Int) (A2 : Option Addr) (c2 : Nat) (l2 : List Int) (len : Int) (W : World)
    (C0 : Kd.C (Kd.int .i64) W A0 l0.length l0) (b0 : l0.length ≤ c0) (m0 : c0 ≤ maxLen) (w0 : ∀ x ∈ l0, (Lit.int .i64 x).wf = true)
    (C1 : Kd.C (Kd.int .i64) W A1 l1.length l1) (b1 : l1.length ≤ c1) (m1 : c1 ≤ maxLen) (w1 : ∀ x ∈ l1, (Lit.int .i64 x).wf = true)
    (C2 : Kd.C (Kd.int .i64) W A2 l2.length l2) (b2 : l2.length ≤ c2) (m2 : c2 ≤ maxLen) (w2 : ∀ x ∈ l2, (Lit.int .i64 x).wf = true) (wl : (Lit.int .i64 len).wf = true) :
    Calls Try.prog 4 #[.agg #[.slice A0 l0.length c0, .slice A1 l1.length c1, .slice A2 l2.length c2, .int .i64 len]] W fun e w' => e = .returned (.bool true) ∧ Below W.heap.size W w' := by
  have HG := Aside0.mk (⟨C0, b0, C1, b1, C2, b2⟩ : GrC W A0 A1 A2 c0 c1 c2 l0 l1 l2)
  have HM := Aside0.mk (And.intro m0 (And.intro m1 m2))
  clear C0 b0 m0 w0 C1 b1 m1 w1 C2 b2 m2 w2 wl
  go_enter Try.func4, Try.ntmps4
  go_wp2_with (go_at_call 16; refine Gm.hold_ ?_)
  intro _
  refine (bound_c HG.out HM.out len _).mono ?_
  rintro e w1 ⟨rfl, hb⟩
  have HL := Aside0.mk (HG.out.tk 6 5 6)
  have hs := tk_small l0 l1 l2
  have hX := (Bx.new W A0 A1 A2 l0.length l1.length l2.length c0 c1 c2 len).below hb
  generalize tk l0 6 = L0 at *
  generalize tk l1 5 = L1 at *
  generalize tk l2 6 = L2 at *
  have HB := Aside0.mk (below_set4 (below_step (below_alloc (Below.refl W.heap.size W) _) hb) (Nat.le_refl W.heap.size) (.slice A0 L0.length c0) (.slice A1 L1.length c1) (.slice A2 L2.length c2) (.int .i64 len))
  have HX := Aside0.mk (hX.set A0 A1 A2 L0.length L1.length L2.length c0 c1 c2 len)
  have HS := Aside0.mk hs
  clear HG HM hs hb
  obtain ⟨⟨k0, k1, k2, k3⟩, ⟨f0, f1, f2, f3⟩, hz⟩ := hX.cells
  clear hX
  go_wp2_with (go_at_call 17; refine Gm.hold_ ?_)
  intro _
  obtain ⟨W2, hW2⟩ : ∃ X, X = ((((w1.setCell ⟨W.heap.size, 0, none⟩ (Value.slice A0 L0.length c0)).setCell ⟨W.heap.size, 1, none⟩ (Value.slice A1 L1.length c1)).setCell ⟨W.heap.size, 2, none⟩ (Value.slice A2 L2.length c2)).setCell ⟨W.heap.size, 3, none⟩ (Value.int IntKind.i64 len)) := ⟨_, rfl⟩
  rw [← hW2] at HB HX ⊢
  clear hW2 k0 k1 k2 k3 f0 f1 f2 f3 hz
  refine (rInsts_c (HL.out.below HB.out) HS.out len).mono ?_
  rintro e w3 ⟨Am, cm, rfl, hA, hk, hb⟩
  have HA := Aside0.mk hA
  have HKM := Aside0.mk hk
  have NB := Aside0.mk (below_step HB.out hb)
  have NX := Aside0.mk (HX.out.below hb)
  clear HB HX hb hA hk
  have HB := NB
  have HX := NX
  clear NB NX
  obtain ⟨⟨k0, k1, k2, k3⟩, ⟨f0, f1, f2, f3⟩, hz⟩ := HX.out.cells
  go_wp2_with (go_at_call 18; refine Gm.hold_ ?_)
  intro _
  refine (rCount_c (HL.out.below HB.out) HS.out len).mono ?_
  rintro e w4 ⟨rfl, hb⟩
  have NB := Aside0.mk (below_step HB.out hb)
  have NX := Aside0.mk (HX.out.below hb)
  have NA := Aside0.mk (Kd.C_below HA.out hb)
  clear HB HX HA hb k0 k1 k2 k3 f0 f1 f2 f3 hz
  have HB := NB
  have HX := NX
  have HA := NA
  clear NB NX NA
  have hcin := fun w hg => Insts_c (w := w) (A0 := A0) (A1 := A1) (A2 := A2) (c0 := c0) (c1 := c1) (c2 := c2) (l0 := L0) (l1 := L1) (l2 := L2) hg (szL_small HS.out) L0.length L1.length L2.length len rfl rfl rfl
  have hcck := fun w hg => Check_c (w := w) (A0 := A0) (A1 := A1) (A2 := A2) (c0 := c0) (c1 := c1) (c2 := c2) (l0 := L0) (l1 := L1) (l2 := L2) hg (szL_small HS.out) L0.length L1.length L2.length len rfl rfl rfl
  have hcco := fun w hg => Count2_c (w := w) (A0 := A0) (A1 := A1) (A2 := A2) (c0 := c0) (c1 := c1) (c2 := c2) (l0 := L0) (l1 := L1) (l2 := L2) hg HS.out len
  have hN := ins_len L0 L1 L2 len HS.out.1 HS.out.2.1 HS.out.2.2
  generalize chk L0 L1 L2 len = q at *
  generalize cnt L0 L1 L2 len = cn at *
  generalize ins L0 L1 L2 len = l at *
  obtain ⟨N, hNl⟩ : ∃ N, N = l.length := ⟨_, rfl⟩
  rw [← hNl] at hN HA HKM hcin ⊢
  have HNL := Aside0.mk hNl
  have HIN := Aside0.mk hcin
  have HCK := Aside0.mk hcck
  have HCO := Aside0.mk hcco
  clear hcin hcck hcco hNl
  obtain ⟨bx, hbx⟩ : ∃ b, b = W.heap.size := ⟨_, rfl⟩
  have HBX := Aside0.mk hbx
  rw [← hbx] at HX ⊢
  clear hbx
  have B4 := HB
  have X4 := HX
  have M4 := HA
  clear HB HX HA
  go_wp2
  go_loopw [7] (fun s7 wr => ∃ i : Nat, i ≤ 2 ∧ s7 = .int .i64 i ∧ Aside0 (Below w4.heap.size w4 wr)) (fun s7 _ => 2 - (intOf s7).toNat)
  case atStart => exact ⟨0, Nat.zero_le _, rfl, ⟨Below.refl _ _⟩⟩
  case round =>
    obtain ⟨i, hi, rfl, HR⟩ := hrel
    have HB := Aside0.mk (below_step B4.out HR.out)
    have HX := Aside0.mk (X4.out.below HR.out)
    have HA := Aside0.mk (Kd.C_below M4.out HR.out)
    by_cases hlt : i < 2
    · obtain ⟨⟨k0, k1, k2, k3⟩, ⟨f0, f1, f2, f3⟩, hz⟩ := HX.out.cells
      go_wp2_with (go_at_call 19; refine Gm.hold_ ?_)
      intro _
      refine (HIN.out _ (HL.out.below HB.out)).mono ?_
      rintro e wa ⟨Ai, ci, rfl, hC, hR, hk, hb⟩
      have hraw := raw_of hR
      rw [List.length_map, ← HNL.out] at hraw
      have HC := Aside0.mk hC
      have HK := Aside0.mk hk
      have HW := Aside0.mk hraw
      have HS2 := Aside0.mk hb
      have NX := Aside0.mk (HX.out.below hb)
      have NA := Aside0.mk (Kd.C_below HA.out hb)
      clear hraw hC hR hk HX HA hb k0 k1 k2 k3 f0 f1 f2 f3 hz
      have HX := NX
      have HA := NA
      clear NX NA
      obtain ⟨⟨k0, k1, k2, k3⟩, ⟨f0, f1, f2, f3⟩, hz⟩ := HX.out.cells
      go_wp2_with (go_at_call 20; refine Gm.hold_ ?_)
      intro _
      refine (HCO.out _ (HL.out.below (below_step HB.out HS2.out))).mono ?_
      rintro e wb ⟨rfl, hb⟩
      have NS := Aside0.mk (below_step HS2.out hb)
      have NX := Aside0.mk (HX.out.below hb)
      have NA := Aside0.mk (Kd.C_below HA.out hb)
      have NC := Aside0.mk (Kd.C_below HC.out hb)
      have NW := Aside0.mk (raw_below HW.out hb)
      clear HS2 HX HA HC HW hb k0 k1 k2 k3 f0 f1 f2 f3 hz
      have HS2 := NS
      have HX := NX
      have HA := NA
      have HC := NC
      have HW := NW
      clear NS NX NA NC NW
      go_wp2_with (go_at_call 21; refine Gm.hold_ ?_)
      intro _
      refine (Same_c Ai Am ci cm N l HC.out HA.out HNL.out HK.out HKM.out (by omega)).mono ?_
      rintro e wc ⟨rfl, hb⟩
      have NS := Aside0.mk (below_step HS2.out hb)
      have NX := Aside0.mk (HX.out.below hb)
      have NW := Aside0.mk (raw_below HW.out hb)
      clear HS2 HX HA HC HW hb
      have HS2 := NS
      have HX := NX
      have HW := NW
      clear NS NX NW
      obtain ⟨⟨k0, k1, k2, k3⟩, ⟨f0, f1, f2, f3⟩, hz⟩ := HX.out.cells
      go_wp2_with (go_at_call 22; refine Gm.hold_ ?_)
      intro _
      refine (HCK.out _ (HL.out.below (below_step HB.out HS2.out))).mono ?_
      rintro e wd ⟨rfl, hb⟩
      have NS := Aside0.mk (below_step HS2.out hb)
      have NW := Aside0.mk (raw_below HW.out hb)
      clear HS2 HX HW hb k0 k1 k2 k3 f0 f1 f2 f3 hz
      have HS2 := NS
      have HW := NW
      clear NS NW
      go_wp2
      go_loopw [12] (fun s12 wx => ∃ j : Nat, j ≤ N ∧ s12 = .int .i64 j ∧ Aside0 (Raw wx wr.heap.size N (.slice Ai N ci)) ∧ Aside0 (Below wr.heap.size wr wx)) (fun s12 _ => N - (intOf s12).toNat)
      case atStart => exact ⟨0, Nat.zero_le _, rfl, HW, HS2⟩
      case round =>
        obtain ⟨j, hj, rfl, HW1, HS1⟩ := hrel
        clear HW HS2
        by_cases hlt2 : j < N
        · obtain ⟨g, hg, hg1, hg2⟩ := raw_some HW1.out (by omega)
          subst hg
          obtain ⟨⟨u, hu⟩, hf⟩ := raw_cell HW1.out (j * 5 + 1) (by omega)
          go_wp2
          go_roundw
          case rel => exact ⟨j + 1, hlt2, by go_num, ⟨raw_set HW1.out _ _⟩, ⟨HS1.out.setCell hg1 _⟩⟩
          case measure => simp [intOf]; omega
        · obtain rfl : j = N := by omega
          go_wp2
          go_roundw
          case rel => exact ⟨i + 1, hlt, by go_num, ⟨below_step HR.out HS1.out⟩⟩
          case measure => simp [intOf]; omega
    · obtain rfl : i = 2 := by omega
      go_wp2_with (go_at_call 13; refine Gm.hold_ ?_)
      intro _
      refine (fixed_c _).mono ?_
      rintro e w6 ⟨rfl, hb⟩
      have NB := Aside0.mk (below_step HB.out hb)
      clear HB hb
      go_wp2
      go_ret
      exact ⟨rfl, NB.out⟩
end Go.Proofs.Ytcjbdfhofpfooaa.Q
