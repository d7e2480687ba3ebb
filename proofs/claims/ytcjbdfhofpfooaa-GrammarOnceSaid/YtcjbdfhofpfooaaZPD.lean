import Derived.Test.YtcjbdfhofpfooaaZQx0
import Derived.Test.YtcjbdfhofpfooaaZQx14
import Derived.Test.YtcjbdfhofpfooaaZQx15
import Derived.Test.YtcjbdfhofpfooaaZQx16
import Derived.Test.YtcjbdfhofpfooaaZQx7
import Derived.Test.YtcjbdfhofpfooaaZQx8
import Derived.Test.YtcjbdfhofpfooaaZPC
import Derived.WalkKit
import Derived.Outline
namespace Go.Proofs.Ytcjbdfhofpfooaa.Q
open Go.RowKit Go.Proofs.YtcjbdfhofpfooaaW.PrintWords Go.Proofs.YtcjbdfhofpfooaaW.PrintLast Go.Proofs.YtcjbdfhofpfooaaW.PrintMore
set_option linter.unusedVariables false
set_option linter.unusedSimpArgs false
/-! ## the laws with Bound -/
def tk (l : List Int) (n : Nat) : List Int := l.take (min l.length n)
theorem tk_len (l : List Int) (n : Nat) : (tk l n).length = min l.length n := by unfold tk; rw [List.length_take]; omega
theorem GrC.tk {w : World} {A0 A1 A2 : Option Addr} {c0 c1 c2 : Nat} {l0 l1 l2 : List Int} (h : GrC w A0 A1 A2 c0 c1 c2 l0 l1 l2) (a b c : Nat) : GrC w A0 A1 A2 c0 c1 c2 (tk l0 a) (tk l1 b) (tk l2 c) := by
  refine ⟨Kd.C_take h.h0 (Nat.min_le_left _ _), ?_, Kd.C_take h.h1 (Nat.min_le_left _ _), ?_, Kd.C_take h.h2 (Nat.min_le_left _ _), ?_⟩
  · rw [tk_len]; have := h.k0; omega
  · rw [tk_len]; have := h.k1; omega
  · rw [tk_len]; have := h.k2; omega
theorem bound_c {A0 A1 A2 : Option Addr} {c0 c1 c2 : Nat} {l0 l1 l2 : List Int} {W : World} (h : GrC W A0 A1 A2 c0 c1 c2 l0 l1 l2) (hm : c0 ≤ maxLen ∧ c1 ≤ maxLen ∧ c2 ≤ maxLen) (len : Int) (w : World) :
    Calls Try.prog 16 #[.agg #[.slice A0 l0.length c0, .slice A1 l1.length c1, .slice A2 l2.length c2, .int .i64 len]] w fun e w' => e = .returned (.agg #[.slice A0 (tk l0 6).length c0, .slice A1 (tk l1 5).length c1, .slice A2 (tk l2 6).length c2, .int .i64 len]) ∧ Below w.heap.size w w' := by
  have x0 : c0 ≤ 9223372036854775807 := by simpa [maxLen] using hm.1
  have x1 : c1 ≤ 9223372036854775807 := by simpa [maxLen] using hm.2.1
  have x2 : c2 ≤ 9223372036854775807 := by simpa [maxLen] using hm.2.2
  rw [tk_len, tk_len, tk_len]
  exact Gm.Bound_calls A0 A1 A2 l0.length l1.length l2.length c0 c1 c2 len w h.k0 h.k1 h.k2 x0 x1 x2
theorem tk_small (l0 l1 l2 : List Int) : (tk l0 6).length ≤ 6 ∧ (tk l1 5).length ≤ 6 ∧ (tk l2 6).length ≤ 6 := by
  rw [tk_len, tk_len, tk_len]; omega
section
variable {A0 A1 A2 : Option Addr} {c0 c1 c2 : Nat} {l0 l1 l2 : List Int} {w : World}
theorem szL_small (h : l0.length ≤ 6 ∧ l1.length ≤ 6 ∧ l2.length ≤ 6) : szL l0 l1 l2 := ⟨by omega, by omega, by omega⟩
/-- How many runs, or none. -/
def cnt (l0 l1 l2 : List Int) (len : Int) : Int := if chk l0 l1 l2 len = 0 then ((cs (ins l0 l1 l2 len).length (len.toNat + 1) : Nat) : Int) else 0
theorem cnt_eq (l0 l1 l2 : List Int) (len : Int) : (if chk l0 l1 l2 len = 0 then (((cs (ins l0 l1 l2 len).length (len.toNat + 1) : Nat) : Int), (0 : Int)) else (0, chk l0 l1 l2 len)) = (cnt l0 l1 l2 len, chk l0 l1 l2 len) := by
  unfold cnt
  split
  · rename_i h; rw [h]
  · rfl
theorem Count2_c (hg : GrC w A0 A1 A2 c0 c1 c2 l0 l1 l2) (h : l0.length ≤ 6 ∧ l1.length ≤ 6 ∧ l2.length ≤ 6) (len : Int) : Calls Try.prog 20 #[.agg #[.slice A0 l0.length c0, .slice A1 l1.length c1, .slice A2 l2.length c2, .int .i64 len]] w fun e w' => e = .returned (.tuple #[.int .i64 (cnt l0 l1 l2 len), .int .i64 (chk l0 l1 l2 len)]) ∧ Below w.heap.size w w' := by
  obtain ⟨k, hk⟩ := Count_eq l0 l1 l2 len h.1 h.2.1 h.2.2
  rw [cnt_eq] at hk
  exact Count_c hg _ _ _ len _ _ k hk rfl rfl rfl
end
/-- A grammar's box. -/
def Bx (w : World) (b : Nat) (A0 A1 A2 : Option Addr) (m0 m1 m2 c0 c1 c2 : Nat) (len : Int) : Prop := w.heap[b]? = some (.cells #[.slice A0 m0 c0, .slice A1 m1 c1, .slice A2 m2 c2, .int .i64 len] 31 (0, 0))
theorem Bx.cells {w : World} {b : Nat} {A0 A1 A2 : Option Addr} {m0 m1 m2 c0 c1 c2 : Nat} {len : Int} (h : Bx w b A0 A1 A2 m0 m1 m2 c0 c1 c2 len) : (w.cell? ⟨b, 0, none⟩ = some (.slice A0 m0 c0) ∧ w.cell? ⟨b, 1, none⟩ = some (.slice A1 m1 c1) ∧ w.cell? ⟨b, 2, none⟩ = some (.slice A2 m2 c2) ∧ w.cell? ⟨b, 3, none⟩ = some (.int .i64 len)) ∧ (w.frozen? ⟨b, 0, none⟩ = false ∧ w.frozen? ⟨b, 1, none⟩ = false ∧ w.frozen? ⟨b, 2, none⟩ = false ∧ w.frozen? ⟨b, 3, none⟩ = false) ∧ b < w.heap.size :=
  ⟨⟨blk_cell h 0, blk_cell h 1, blk_cell h 2, blk_cell h 3⟩, ⟨blk_frozen h 0, blk_frozen h 1, blk_frozen h 2, blk_frozen h 3⟩, blk_lt h⟩
theorem Bx.below {w w' : World} {b : Nat} {A0 A1 A2 : Option Addr} {m0 m1 m2 c0 c1 c2 : Nat} {len : Int} (h : Bx w b A0 A1 A2 m0 m1 m2 c0 c1 c2 len) (hb : Below w.heap.size w w') : Bx w' b A0 A1 A2 m0 m1 m2 c0 c1 c2 len := blk_below h hb
theorem Bx.new (w : World) (A0 A1 A2 : Option Addr) (m0 m1 m2 c0 c1 c2 : Nat) (len : Int) : Bx (w.alloc (.cells #[.slice A0 m0 c0, .slice A1 m1 c1, .slice A2 m2 c2, .int .i64 len] 31)) w.heap.size A0 A1 A2 m0 m1 m2 c0 c1 c2 len := blk_new w _
theorem Bx.set {w : World} {b : Nat} {A0 A1 A2 : Option Addr} {m0 m1 m2 c0 c1 c2 : Nat} {len : Int} (h : Bx w b A0 A1 A2 m0 m1 m2 c0 c1 c2 len) (B0 B1 B2 : Option Addr) (k0 k1 k2 d0 d1 d2 : Nat) (len' : Int) :
    Bx ((((w.setCell ⟨b, 0, none⟩ (.slice B0 k0 d0)).setCell ⟨b, 1, none⟩ (.slice B1 k1 d1)).setCell ⟨b, 2, none⟩ (.slice B2 k2 d2)).setCell ⟨b, 3, none⟩ (.int .i64 len')) b B0 B1 B2 k0 k1 k2 d0 d1 d2 len' :=
  blk_put (blk_put (blk_put (blk_put h 0 _ rfl) 1 _ rfl) 2 _ rfl) 3 _ rfl
theorem below_set4 {B : Nat} {w X : World} (h : Below B w X) {b : Nat} (hb : B ≤ b) (u0 u1 u2 u3 : Value) : Below B w ((((X.setCell ⟨b, 0, none⟩ u0).setCell ⟨b, 1, none⟩ u1).setCell ⟨b, 2, none⟩ u2).setCell ⟨b, 3, none⟩ u3) :=
  (((h.setCell hb u0).setCell hb u1).setCell hb u2).setCell hb u3
end Go.Proofs.Ytcjbdfhofpfooaa.Q
