import Derived.Test.YtoaifpiiofpdaaaMF
import Derived.WalkKit
import Derived.KernelRfl
import Derived.Below
import Derived.Outline
import Derived.LoopTactic
import Derived.Maps.Own
import Derived.Maps.OwnOps
import Derived.Maps.OwnSet
import Derived.Maps.Views
import Derived.Maps.AppendAt
import Derived.Laws.BitsLemmas
import Derived.Laws.BitsAllLaws
import Derived.Deep.LoopGhost
import Derived.Lib.Hide
import Derived.Deep.QuietTactic
import Derived.BigQuiet
import Derived.Deep.Draws
import Derived.Laws.StructEq
import Derived.WalkSmall
import Derived.RangeFuncBox
import Derived.OwnWalk
import Derived.Laws.OwnMore
import Derived.Laws.BytesArg
import Derived.Laws.MakeOwn
namespace Go.Proofs.Ytoaifpiiofpdaaa.Mm
open Go.RowKit Go.Maps Go.Proofs
set_option linter.unusedVariables false
set_option linter.unusedSimpArgs false
/-! ### MemApart -/
theorem nat_of_wf {a : Int} (h : (Lit.int .u32 a).wf = true) : ∃ n : Nat, n < 4294967296 ∧ a = (n : Int) := by
  simp [Lit.wf, IntKind.min, IntKind.max, IntKind.signed, IntKind.bits] at h
  exact ⟨a.toNat, by omega, by omega⟩
/-- A new memory, under names of its own. -/
theorem New_named {B : Nat} {w0 w : World} (h : Below B w0 w) (hB : B ≤ w.heap.size) : Calls Try.prog 9 #[] w fun e w' => ∃ p b, e = .returned (.pointer (some ⟨p, 0, none⟩)) ∧ MemAt w' p b 0 (fun _ => 0) ∧ w.heap.size ≤ p ∧ w.heap.size ≤ b ∧ w.grownBy w' none ∧ Below B w0 w' :=
  (New_at h hB).mono fun e w' ⟨h1, h2, h3, h4⟩ => ⟨_, _, h1, h2, Nat.le_succ _, Nat.le_refl _, h3, h4⟩
theorem MemAt.other {w w' : World} {p b n : Nat} {f : Nat → Nat} {c : Nat} (h : MemAt w p b n f) (hg : w.grownBy w' (some c)) (hp : p ≠ c) (hb : b ≠ c) : MemAt w' p b n f :=
  h.kept hg (fun e => hb (Option.some.inj e)) (fun e => hp (Option.some.inj e))
theorem putn_at (g : Nat → Nat) (a : Nat) (c : Nat → Nat) (k x : Nat) (ha : a < 4294967296) (hk : k ≤ 4294967296) :
    putn g a c k x = if x < 4294967296 ∧ (x + (4294967296 - a)) % 4294967296 < k then c ((x + (4294967296 - a)) % 4294967296) else g x := by
  induction k with
  | zero => simp [putn]
  | succ k ih =>
    show upd (putn g a c k) ((a + k) % 4294967296) (c k) x = _
    unfold upd
    by_cases h : x = (a + k) % 4294967296
    · have h1 : x < 4294967296 := by omega
      have h2 : (x + (4294967296 - a)) % 4294967296 = k := by omega
      rw [if_pos h, if_pos ⟨h1, by omega⟩, h2]
    · rw [if_neg h, ih (by omega)]
      by_cases h1 : x < 4294967296 ∧ (x + (4294967296 - a)) % 4294967296 < k
      · rw [if_pos h1, if_pos ⟨h1.1, by omega⟩]
      · rw [if_neg h1, if_neg (by omega)]
theorem apart (g : Nat → Nat) (a : Nat) (c d : Nat → Nat) (ha : a < 4294967296) : putn (putn g a c 4) ((a + 4) % 4294967296) d 2 = putn (putn g ((a + 4) % 4294967296) d 2) a c 4 := by
  funext x
  have hb : (a + 4) % 4294967296 < 4294967296 := Nat.mod_lt _ (by decide)
  rw [putn_at _ _ _ _ _ hb (by decide), putn_at _ _ _ _ _ ha (by decide), putn_at _ _ _ _ _ ha (by decide), putn_at _ _ _ _ _ hb (by decide)]
  by_cases h1 : x < 4294967296 ∧ (x + (4294967296 - a)) % 4294967296 < 4
  · rw [if_neg (by omega), if_pos h1, if_pos h1]
  · by_cases h2 : x < 4294967296 ∧ (x + (4294967296 - (a + 4) % 4294967296)) % 4294967296 < 2
    · rw [if_pos h2, if_neg h1, if_pos h2]
    · rw [if_neg h2, if_neg h1, if_neg h1, if_neg h2]
set_option maxHeartbeats 3200000 in
theorem walk_MemApart (a v u : Int) (W : World) (h0 : (Lit.int .u32 a).wf = true) (h1 : (Lit.int .u32 v).wf = true) (h2 : (Lit.int .u32 u).wf = true) :
    Calls Try.prog 3 #[.int .u32 a, .int .u32 v, .int .u32 u] W fun e w' => e = .returned (.bool true) ∧ Below W.heap.size W w' := by
  obtain ⟨a, ha, rfl⟩ := nat_of_wf h0
  obtain ⟨v, hv, rfl⟩ := nat_of_wf h1
  obtain ⟨u, hu, rfl⟩ := nat_of_wf h2
  clear h0 h1 h2
  go_enter Try.func3, Try.ntmps3
  go_wp2_with (go_at_call 9; refine hold_ ?_)
  intro _
  refine (New_named (Below.refl W.heap.size W) (Nat.le_refl _)).mono ?_
  rintro e w1 ⟨p, b, rfl, h1, k1, l1, g1, b1⟩
  have H1 := Lib.hid h1; have B1 := Lib.hid b1; have K1 := Lib.hid k1; have L1 := Lib.hid l1
  clear h1 g1 b1 k1 l1
  go_wp2_with (go_at_call 9; refine hold_ ?_)
  intro _
  refine (New_named B1.out B1.out.size).mono ?_
  rintro e w2 ⟨q, d, rfl, h2, k2, l2, g2, b2⟩
  have H2 := Lib.hid h2; have B2 := Lib.hid b2; have K2 := Lib.hid k2; have L2 := Lib.hid l2
  have M2 := Lib.hid (H1.out.kept g2 (by simp) (by simp))
  have hpl := H1.out.lt
  have hbl := H1.out.map.lt
  have e1 : Hid (p ≠ d) := Lib.hid (by omega)
  have e2 : Hid (b ≠ d) := Lib.hid (by omega)
  have e3 : Hid (q ≠ b) := Lib.hid (by omega)
  have e4 : Hid (d ≠ b) := Lib.hid (by omega)
  have L3 : Hid (W.heap.size ≤ d) := Lib.hid (Nat.le_trans B1.out.size l2)
  clear h2 g2 b2 k2 l2 hpl hbl H1
  go_wp2_with (go_at_call 10; refine hold_ ?_)
  intro _
  refine (Store_at M2.out a 4 v _ _ _ rfl rfl rfl (by omega) ha hv (Or.inr (Or.inr rfl))).mono ?_
  rintro e w3 ⟨rfl, h3, g3⟩
  have M3 := Lib.hid h3
  have N3 := Lib.hid (H2.out.other g3 e3.out e4.out)
  have B3 := Lib.hid (B2.out.grown g3 B2.out.size (fun k hk => by cases hk; exact L1.out))
  clear h3 g3 M2 H2
  go_wp2_with (go_at_call 10; refine hold_ ?_)
  intro _
  refine (Store_at M3.out ((a + 4) % 4294967296) 2 u _ _ _ (by omega) rfl rfl (by omega) (by omega) hu (Or.inr (Or.inl rfl))).mono ?_
  rintro e w4 ⟨rfl, h4, g4⟩
  have M4 := Lib.hid h4
  have N4 := Lib.hid (N3.out.other g4 e3.out e4.out)
  have B4 := Lib.hid (B3.out.grown g4 B3.out.size (fun k hk => by cases hk; exact L1.out))
  clear h4 g4 M3 N3
  go_wp2_with (go_at_call 10; refine hold_ ?_)
  intro _
  refine (Store_at N4.out ((a + 4) % 4294967296) 2 u _ _ _ (by omega) rfl rfl (by omega) (by omega) hu (Or.inr (Or.inl rfl))).mono ?_
  rintro e w5 ⟨rfl, h5, g5⟩
  have N5 := Lib.hid h5
  have M5 := Lib.hid (M4.out.other g5 e1.out e2.out)
  have B5 := Lib.hid (B4.out.grown g5 B4.out.size (fun k hk => by cases hk; exact L3.out))
  clear h5 g5 M4 N4
  go_wp2_with (go_at_call 10; refine hold_ ?_)
  intro _
  refine (Store_at N5.out a 4 v _ _ _ rfl rfl rfl (by omega) ha hv (Or.inr (Or.inr rfl))).mono ?_
  rintro e w6 ⟨rfl, h6, g6⟩
  rw [← apart _ _ _ _ ha] at h6
  have N6 := Lib.hid h6
  have M6 := Lib.hid (M5.out.other g6 e1.out e2.out)
  have B6 := Lib.hid (B5.out.grown g6 B5.out.size (fun k hk => by cases hk; exact L3.out))
  clear h6 g6 M5 N5
  go_wp2_with (go_at_call 12; refine hold_ ?_)
  intro _
  refine (Cells_calls _ _ _ _ _ M6.out (by omega)).mono ?_
  rintro e w7 ⟨c1, l1, rfl, hr1, hl1, ho1, hz1, hb⟩
  have R1 := Lib.hid hr1
  have O1 := Lib.hid ho1
  have N7 := Lib.hid (N6.out.below hb)
  have B7 := Lib.hid (B6.out.trans (hb.mono B6.out.size))
  clear ho1 hb hr1 hz1 M6 N6
  go_wp2_with (go_at_call 12; refine hold_ ?_)
  intro _
  refine (Cells_calls _ _ _ _ _ N7.out (by omega)).mono ?_
  rintro e w8 ⟨c2, l2, rfl, hr2, hl2, ho2, hz2, hb⟩
  obtain rfl := hr2.unique R1.out
  have O2 := Lib.hid ho2
  have P1 := Lib.hid (O1.out.below hb)
  have B8 := Lib.hid (B7.out.trans (hb.mono B7.out.size))
  clear ho2 hb hr2 hz2 O1 N7
  go_wp2_with (go_at_call 11; refine hold_ ?_)
  intro _
  refine (Same_calls _ _ _ _ _ _ _ P1.out O2.out (by omega) (by omega)).mono ?_
  rintro e w9 ⟨rfl, nd, hw⟩
  have B9 : Hid (Below W.heap.size W w9) := by rw [hw]; exact below_drewN B8.out nd
  clear hw
  go_wp2_with (go_at_call 13; refine hold_ ?_)
  intro _
  refine (fixed_calls _).mono ?_
  rintro e w10 ⟨rfl, hb⟩
  have B10 := Lib.hid (B9.out.trans (hb.mono B9.out.size))
  clear hb
  go_wp2
  go_ret
  exact ⟨by simp, B10.out⟩
end Go.Proofs.Ytoaifpiiofpdaaa.Mm
