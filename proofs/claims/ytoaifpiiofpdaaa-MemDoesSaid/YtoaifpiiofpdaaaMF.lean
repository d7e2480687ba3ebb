import Derived.Test.YtoaifpiiofpdaaaME
import Derived.WalkKit
import Derived.KernelRfl
import Derived.Below
import Derived.Outline
import Derived.LoopTactic
import Derived.Maps.Own
import Derived.Maps.OwnOps
import Derived.Maps.OwnSet
import Derived.Maps.Views
import Derived.Maps.AppendAt
import Derived.Laws.BitsLemmas
import Derived.Laws.BitsAllLaws
import Derived.Deep.LoopGhost
import Derived.Lib.Hide
import Derived.Deep.QuietTactic
import Derived.BigQuiet
import Derived.Deep.Draws
import Derived.Laws.StructEq
import Derived.WalkSmall
import Derived.RangeFuncBox
import Derived.OwnWalk
import Derived.Laws.OwnMore
import Derived.Laws.BytesArg
import Derived.Laws.MakeOwn
namespace Go.Proofs.Ytoaifpiiofpdaaa.Mm
open Go.RowKit Go.Maps Go.Proofs
set_option linter.unusedVariables false
set_option linter.unusedSimpArgs false
/-! ### The contracts, with the arguments as the walk spells them -/
section
variable {p b n B : Nat} {f : Nat → Nat} {w w0 : World}
theorem New_at (h : Below B w0 w) (hB : B ≤ w.heap.size) : Calls Try.prog 9 #[] w fun e w' => e = .returned (.pointer (some ⟨w.heap.size + 1, 0, none⟩)) ∧ MemAt w' (w.heap.size + 1) w.heap.size 0 (fun _ => 0) ∧ w.grownBy w' none ∧ Below B w0 w' :=
  (New_calls w).mono fun e w' ⟨h1, h2, h3⟩ => ⟨h1, h2, h3, h.grown h3 hB (fun k hk => by cases hk)⟩
theorem Load_at (h : MemAt w p b n f) (a k V : Nat) (A K : Int) (hA : A = (a : Int)) (hK : K = (k : Int)) (hV : V = ld f a k) (ha : a < 4294967296) (hk : k = 1 ∨ k = 2 ∨ k = 4) :
    Calls Try.prog 16 #[.pointer (some ⟨p, 0, none⟩), .int .u32 A, .int .i64 K] w fun e w' => e = .returned (.tuple #[.int .u32 (V : Int), .int .i64 0]) ∧ w = w' := by
  subst hA hK hV
  exact Load_calls p b n f a k w h ha hk
theorem LoadNot_at (q : Option Addr) (a : Nat) (A K : Int) (hA : A = (a : Int)) (hk : ¬ (K = 1 ∨ K = 2 ∨ K = 4)) :
    Calls Try.prog 16 #[.pointer q, .int .u32 A, .int .i64 K] w fun e w' => e = .returned (.tuple #[.int .u32 0, .int .i64 1]) ∧ w = w' := by
  subst hA
  exact Load_not q a K w hk
theorem Store_at (h : MemAt w p b n f) (a k v : Nat) (A K V : Int) (hA : A = (a : Int)) (hK : K = (k : Int)) (hV : V = (v : Int)) (hn : n < 900000000) (ha : a < 4294967296) (hv : v < 4294967296) (hk : k = 1 ∨ k = 2 ∨ k = 4) :
    Calls Try.prog 10 #[.pointer (some ⟨p, 0, none⟩), .int .u32 A, .int .i64 K, .int .u32 V] w fun e w' => e = .returned (.int .i64 0) ∧ MemAt w' p b (n + k) (putn f a (fun j => v / 256 ^ j % 256) k) ∧ w.grownBy w' (some b) := by
  subst hA hK hV
  exact Store_calls p b n f a k v w h hn ha hv hk
theorem Put_at (h : MemAt w p b n f) (a : Nat) (A : Int) (s : ByteArray) (hA : A = (a : Int)) (hn : n + s.size < 900000000) (ha : a < 4294967296) :
    Calls Try.prog 14 #[.pointer (some ⟨p, 0, none⟩), .int .u32 A, .string s] w fun e w' => e = .returned (.tuple #[]) ∧ MemAt w' p b (n + s.size) (putn f a (bt s) s.size) ∧ w.grownBy w' (some b) := by
  subst hA
  exact Put_calls p b n f a s w h hn ha
theorem Bytes_at (h : MemAt w p b n f) (a k : Nat) (A K : Int) (V : ByteArray) (hA : A = (a : Int)) (hK : K = (k : Int)) (hV : V = strB f a k) (ha : a < 4294967296) (hk2 : k < 1000000000) :
    Calls Try.prog 15 #[.pointer (some ⟨p, 0, none⟩), .int .u32 A, .int .i64 K] w fun e w' => e = .returned (.string V) ∧ Below w.heap.size w w' := by
  subst hA hK
  by_cases h0 : k = 0
  · subst h0
    have : V = ByteArray.empty := by rw [hV]; rfl
    subst this
    exact (Bytes_neg _ a _ w (by decide)).mono fun e w' ⟨h1, h2⟩ => ⟨h1, by subst h2; exact Below.refl _ _⟩
  · subst hV
    exact Bytes_calls p b n f a k w h ha (by omega) hk2
end
/-- A world that grew kept what is not the row's. -/
theorem MemAt.below {w w' : World} {p b n : Nat} {f : Nat → Nat} (h : MemAt w p b n f) (hB : Below w.heap.size w w') : MemAt w' p b n f :=
  h.kept (below_grown hB) (by simp) (by simp)
theorem OwnC.below {w w' : World} {base : Nat} {v : Value} {l : List (Nat × Nat)} (h : OwnC w base v l) (hB : Below w.heap.size w w') : OwnC w' base v l :=
  World.ownsRow.kept h (below_grown hB) (by cases hv : v.ownBlock <;> simp)
theorem litF (w : World) : OwnC (w.alloc (.cells #[.int .u32 0, .int .u8 18, .int .u32 4294967295, .int .u8 52] 42)) w.heap.size (.slice (some ⟨w.heap.size, 0, none⟩) 2 2) [(0, 18), (4294967295, 52)] :=
  World.ownsRow_lit w #[.int .u32 0, .int .u8 18, .int .u32 4294967295, .int .u8 52] 2 (Nat.le_refl _) (by unfold maxLen; omega) rfl
theorem below_of_alloc (w : World) (o : Obj) : Below w.heap.size w (w.alloc o) := (Below.refl _ w).alloc (Nat.le_refl _) o
/-! ### fixed -/
def fF : Nat → Nat := putn (fun _ => 0) 4294967295 (fun j => 4660 / 256 ^ j % 256) 2
theorem fF_at (x : Nat) : fF x = if x = 0 then 18 else if x = 4294967295 then 52 else 0 := by
  simp [fF, putn, upd]
theorem fF_rep : Rep fF [(0, 18), (4294967295, 52)] := by
  refine ⟨by simp, fun a c => ?_⟩
  rw [fF_at]
  simp only [List.mem_cons, Prod.mk.injEq, List.not_mem_nil, or_false]
  by_cases h : a = 0
  · subst h; simp; omega
  · by_cases h2 : a = 4294967295
    · subst h2; simp; omega
    · simp [h, h2]
theorem fF_ld : 18 = ld fF 0 1 := by simp [ld, fF_at]
theorem fF_str : (⟨#[52, 18, 0]⟩ : ByteArray) = strB fF 4294967295 3 := by
  have : (List.range 3).map (fun i => (nth fF 4294967295 i : Int)) = [52, 18, 0] := by simp [nth, fF_at, List.range, List.range.loop]
  unfold strB
  rw [this]
  rfl
set_option maxHeartbeats 1600000 in
theorem fixed_calls (w : World) : Calls Try.prog 13 #[] w fun e w' => e = .returned (.bool true) ∧ Below w.heap.size w w' := by
  go_enter Try.func13, Try.ntmps13
  go_wp2_with (go_at_call 9; refine hold_ ?_)
  intro _
  refine (New_at (Below.refl w.heap.size w) (Nat.le_refl _)).mono ?_
  rintro e w1 ⟨rfl, h1, g1, b1⟩
  have H1 := Lib.hid h1; have B1 := Lib.hid b1
  clear h1 g1 b1
  go_wp2_with (go_at_call 10; refine hold_ ?_)
  intro _
  refine (Store_at H1.out 4294967295 2 4660 _ _ _ rfl rfl rfl (by omega) (by omega) (by omega) (Or.inr (Or.inl rfl))).mono ?_
  rintro e w2 ⟨rfl, h2, g2⟩
  have H2 : Hid (MemAt w2 (w.heap.size + 1) w.heap.size 2 fF) := Lib.hid h2
  have B2 := Lib.hid (B1.out.grown g2 B1.out.size (fun k hk => by cases hk; exact Nat.le_refl _))
  clear h2 g2
  go_wp2_with (go_at_call 16; refine hold_ ?_)
  intro _
  refine (Load_at H2.out 0 1 18 _ _ rfl rfl fF_ld (by omega) (Or.inl rfl)).mono ?_
  rintro e w' ⟨rfl, rfl⟩
  go_wp2_with (go_at_call 16; refine hold_ ?_)
  intro _
  refine (LoadNot_at _ 0 _ _ rfl (by omega)).mono ?_
  rintro e w' ⟨rfl, rfl⟩
  go_wp2_with (go_at_call 12; refine hold_ ?_)
  intro _
  refine (Cells_calls _ _ _ _ _ H2.out (by omega)).mono ?_
  rintro e w3 ⟨v, l, rfl, hr, hl, ho, hz, hb⟩
  obtain rfl := hr.unique fF_rep
  have HO := Lib.hid ho
  have H3 := Lib.hid (H2.out.below hb)
  have B3 := Lib.hid (B2.out.trans (hb.mono B2.out.size))
  clear ho hb hr hl hz
  go_wp2_with (go_at_call 11; refine hold_ ?_)
  intro _
  refine (Same_calls _ _ _ _ _ _ _ (HO.out.below (below_of_alloc _ _)) (litF w3) (by simp) (by simp)).mono ?_
  rintro e w4 ⟨rfl, nd, hw⟩
  have H4 : Hid (MemAt w4 (w.heap.size + 1) w.heap.size 2 fF) := by rw [hw]; exact (H3.out.alloc _).below (below_drewN (Below.refl _ _) nd)
  have B4 : Hid (Below w.heap.size w w4) := by rw [hw]; exact below_drewN (B3.out.alloc B3.out.size _) nd
  clear H3 hw
  go_wp2_with (go_at_call 15; refine hold_ ?_)
  intro _
  refine (Bytes_at H4.out 4294967295 3 _ _ _ rfl rfl fF_str (by omega) (by omega)).mono ?_
  rintro e w5 ⟨rfl, hb⟩
  have B5 := Lib.hid (B4.out.trans (hb.mono B4.out.size))
  clear hb
  go_wp2
  go_ret
  exact ⟨rfl, B5.out⟩
end Go.Proofs.Ytoaifpiiofpdaaa.Mm
