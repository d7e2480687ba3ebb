import Derived.Test.YtononmcodecmaaaJMF
import Derived.WalkKit
import Derived.KernelRfl
import Derived.Below
import Derived.Outline
import Derived.LoopTactic
import Derived.Maps.Own
import Derived.Maps.OwnOps
import Derived.Maps.OwnSet
import Derived.Maps.Views
import Derived.Maps.AppendAt
import Derived.Laws.BitsLemmas
import Derived.Laws.BitsAllLaws
import Derived.Deep.LoopGhost
import Derived.Lib.Hide
import Derived.Deep.QuietTactic
import Derived.BigQuiet
import Derived.Deep.Draws
import Derived.RangeFuncBox
import Derived.OwnWalk
import Derived.Laws.OwnMore
import Derived.Laws.BytesArg
import Derived.Laws.MakeOwn
import Derived.Laws.StructEq
import Derived.WalkSmall
import Derived.StillTailTactics
import Derived.Deep.CutBlock
import Derived.Deep.DeepCutAuto
import Derived.Deep.RegionHeld3
import Derived.Deep.Slices
import Derived.Deep.Fields
import Derived.ChangeSame
section
namespace Go.Proofs.Ytononmcodecmaaa.Mm
set_option maxRecDepth 100000
open Go.RowKit Go.Maps Go.Proofs
set_option linter.unusedVariables false
set_option linter.unusedSimpArgs false
theorem rset_at (p n : Nat) (f : Nat → Nat) (l : List (Nat × Nat)) (a c : Nat) (A C : Int) (w : World) (hA : A = (a : Int)) (hC : C = (c : Int)) (h : RefM w p n f l) (hn : n < 90000000) (ha : a < 4294967296) (hc : c < 256) :
  Calls Try.prog 63 #[.pointer (some ⟨p, 0, none⟩), .int .u32 A, .int .u8 C] w fun e w' => e = .returned (.tuple #[]) ∧ RefM w' p (n + 1) (upd f a c) (rset l a c) ∧ w.grownBy w' (some p) := by
 subst hA hC
 exact rset_calls p n f l a c w h hn ha hc
end Go.Proofs.Ytononmcodecmaaa.Mm
end
section
namespace Go.Proofs.Ytononmcodecmaaa.Mm
set_option maxRecDepth 100000
open Go.RowKit Go.Maps Go.Proofs
set_option linter.unusedVariables false
set_option linter.unusedSimpArgs false
set_option maxHeartbeats 800000 in
theorem rPut_calls (p n : Nat) (f : Nat → Nat) (l : List (Nat × Nat)) (a : Nat) (s : ByteArray) (w : World) (h : RefM w p n f l) (hn : n + s.size < 80000000) (ha : a < 4294967296) :
  Calls Try.prog 31 #[.pointer (some ⟨p, 0, none⟩), .int .u32 (a : Int), .string s] w fun e w' => e = .returned (.tuple #[]) ∧ (∃ l', RefM w' p (n + s.size) (putn f a (bt s) s.size) l') ∧ w.grownBy w' (some p) := by
 have HM := Lib.hid h
 clear h
 have hs : s.size ≤ 9223372036854775807 := by omega
 go_enter Try.func31, Try.ntmps31
 go_wp2
 go_loopw [6] (fun i wr => ∃ j : Nat, j ≤ s.size ∧ i = .int .i64 j ∧ (∃ l', RefM wr p (n + j) (putn f a (bt s) j) l') ∧ w.grownBy wr (some p)) (fun i _ => s.size - (intOf i).toNat)
 case atStart => exact ⟨0, Nat.zero_le _, rfl, ⟨l, HM.out⟩, grown_refl _ _⟩
 case round =>
  obtain ⟨j, hj, rfl, ⟨l', hM⟩, hG⟩ := hrel
  have HM2 := Lib.hid hM
  have HG := Lib.hid hG
  clear hM hG
  by_cases hlt : j < s.size
  ·have hb : ((s[j].toNat : Nat) : Int) = (bt s j : Int) := by rw [bt_get s j hlt]
   go_wp2_with (go_at_call 63; refine hold_ ?_)
   intro _
   refine (rset_at p (n + j) _ l' ((a + j) % 4294967296) (bt s j) _ _ _ (addr_at a j) rfl HM2.out (by omega) (Nat.mod_lt _ (by decide)) (bt_lt s j)).mono ?_
   rintro e w2 ⟨rfl, hM2, hg2⟩
   have HN2 := Lib.hid hM2
   have HG2 := Lib.hid (HG.out.trans hg2)
   clear hM2 hg2
   go_wp2
   go_roundw
   case rel => exact ⟨j + 1, hlt, by go_num, ⟨_, HN2.out⟩, HG2.out⟩
   case measure => simp [intOf]; omega
  ·obtain rfl : j = s.size := by omega
   go_wp2
   go_end0
   exact ⟨rfl, ⟨l', HM2.out⟩, HG.out⟩
end Go.Proofs.Ytononmcodecmaaa.Mm
end
section
namespace Go.Proofs.Ytononmcodecmaaa.Mm
set_option maxRecDepth 100000
open Go.RowKit Go.Maps Go.Proofs
set_option linter.unusedVariables false
set_option linter.unusedSimpArgs false
theorem RefM.below {w w' : World} {p n : Nat} {f : Nat → Nat} {l : List (Nat × Nat)} (h : RefM w p n f l) (hB : Below w.heap.size w w') : RefM w' p n f l := ⟨h.at_.below hB, h.rep, h.len, h.lt⟩
end Go.Proofs.Ytononmcodecmaaa.Mm
end
section
namespace Go.Proofs.Ytononmcodecmaaa.Mm
set_option maxRecDepth 100000
open Go.RowKit Go.Maps Go.Proofs
set_option linter.unusedVariables false
set_option linter.unusedSimpArgs false
theorem MemAt.other {w w' : World} {p b n : Nat} {f : Nat → Nat} {c : Nat} (h : MemAt w p b n f) (hg : w.grownBy w' (some c)) (hp : p ≠ c) (hb : b ≠ c) : MemAt w' p b n f :=
 h.kept hg (fun e => hb (Option.some.inj e)) (fun e => hp (Option.some.inj e))
theorem putn_at (g : Nat → Nat) (a : Nat) (c : Nat → Nat) (k x : Nat) (ha : a < 4294967296) (hk : k ≤ 4294967296) :
  putn g a c k x = if x < 4294967296 ∧ (x + (4294967296 - a)) % 4294967296 < k then c ((x + (4294967296 - a)) % 4294967296) else g x := by
 induction k with
 | zero => simp [putn]
 | succ k ih =>
  show upd (putn g a c k) ((a + k) % 4294967296) (c k) x = _
  unfold upd
  by_cases h : x = (a + k) % 4294967296
  ·have h1 : x < 4294967296 := by omega
   have h2 : (x + (4294967296 - a)) % 4294967296 = k := by omega
   rw [if_pos h, if_pos ⟨h1, by omega⟩, h2]
  ·rw [if_neg h, ih (by omega)]
   by_cases h1 : x < 4294967296 ∧ (x + (4294967296 - a)) % 4294967296 < k
   ·rw [if_pos h1, if_pos ⟨h1.1, by omega⟩]
   ·rw [if_neg h1, if_neg (by omega)]
theorem apart (g : Nat → Nat) (a : Nat) (c d : Nat → Nat) (ha : a < 4294967296) : putn (putn g a c 4) ((a + 4) % 4294967296) d 2 = putn (putn g ((a + 4) % 4294967296) d 2) a c 4 := by
 funext x
 have hb : (a + 4) % 4294967296 < 4294967296 := Nat.mod_lt _ (by decide)
 rw [putn_at _ _ _ _ _ hb (by decide), putn_at _ _ _ _ _ ha (by decide), putn_at _ _ _ _ _ ha (by decide), putn_at _ _ _ _ _ hb (by decide)]
 by_cases h1 : x < 4294967296 ∧ (x + (4294967296 - a)) % 4294967296 < 4
 ·rw [if_neg (by omega), if_pos h1, if_pos h1]
 ·by_cases h2 : x < 4294967296 ∧ (x + (4294967296 - (a + 4) % 4294967296)) % 4294967296 < 2
  ·rw [if_pos h2, if_neg h1, if_pos h2]
  ·rw [if_neg h2, if_neg h1, if_neg h1, if_neg h2]
end Go.Proofs.Ytononmcodecmaaa.Mm
end
section
namespace Go.Proofs.Ytononmcodecmaaa.Mm
set_option maxRecDepth 100000
open Go.RowKit Go.Maps Go.Proofs
set_option linter.unusedVariables false
set_option linter.unusedSimpArgs false
theorem cut_le (s : ByteArray) (n : Nat) : (s.extract 0 (min (s.size : Int) (n : Int)).toNat).size ≤ n := by
 rw [ByteArray.size_extract]
 omega
end Go.Proofs.Ytononmcodecmaaa.Mm
end
section
namespace Go.Proofs.Ytononmcodecmaaa.Mm
set_option maxRecDepth 100000
open Go.RowKit Go.Maps Go.Proofs
set_option linter.unusedVariables false
set_option linter.unusedSimpArgs false
end Go.Proofs.Ytononmcodecmaaa.Mm
end
section
namespace Go.Proofs.Ytononmcodecmaaa.Mm
set_option maxRecDepth 100000
open Go.RowKit Go.Maps Go.Proofs
set_option linter.unusedVariables false
set_option linter.unusedSimpArgs false
theorem rh_take {P : Program} {ops : Array Oper} {Q : Exit → Act → World → Prop} {md : Region.Mode} {S : World → Prop} {i k : Nat} {oi : Oper} {v : Value} {fuel : Nat} {listed : Array Bool} {a : Act} {w : World} (hi : ops[i]? = some oi) (hk : oi.dst = some k)
  (hs : Region.noSelect ops = true) (hf : Region.free md ops listed i = true) (hr : (Region.ready md ops listed).contains i = true)
  (hQ : ∀ c a w, Q (.panic c) (a.put (some k) v) w → Q (.panic c) a w) (hy : YieldsIf P ops S oi v a) (hS : S w)
  (h : wpAnyH P md ops Q S fuel (listed.setIfInBounds i true) (a.put (some k) v) w) : wpAnyH P md ops Q S (fuel + 1) listed a w := by
 rw [← hk] at hQ h
 exact wpAnyH_take hi hs hf hr hQ hy hS h
structure OpV where
 kind : Int
 n : Int
 addr : Nat
 v : Nat
 s : ByteArray
structure OpAt (w : World) (g x i : Nat) (o : OpV) : Prop where
 c0 : w.cell? ⟨g, x + i * 5, none⟩ = some (.int .i64 o.kind)
 c1 : w.cell? ⟨g, x + i * 5 + 1, none⟩ = some (.int .i64 o.n)
 c2 : w.cell? ⟨g, x + i * 5 + 2, none⟩ = some (.int .u32 (o.addr : Int))
 c3 : w.cell? ⟨g, x + i * 5 + 3, none⟩ = some (.int .u32 (o.v : Int))
 c4 : w.cell? ⟨g, x + i * 5 + 4, none⟩ = some (.string o.s)
 hn : -9223372036854775808 ≤ o.n ∧ o.n ≤ 9223372036854775807
 ha : o.addr < 4294967296
 hv : o.v < 4294967296
 hs : o.s.size ≤ 9223372036854775807
theorem OpAt.below {w w' : World} {g x i : Nat} {o : OpV} (h : OpAt w g x i o) (ha : g < w.heap.size) (hb : Below w.heap.size w w') : OpAt w' g x i o :=
 ⟨(hb.cell ha).trans h.c0, (hb.cell ha).trans h.c1, (hb.cell ha).trans h.c2, (hb.cell ha).trans h.c3, (hb.cell ha).trans h.c4, h.hn, h.ha, h.hv, h.hs⟩
end Go.Proofs.Ytononmcodecmaaa.Mm
end
section
namespace Go.Proofs.Ytononmcodecmaaa.Mm
set_option maxRecDepth 100000
open Go.RowKit Go.Maps Go.Proofs
set_option linter.unusedVariables false
set_option linter.unusedSimpArgs false
instance : Inhabited OpV := ⟨⟨0, 0, 0, 0, ByteArray.empty⟩⟩
end Go.Proofs.Ytononmcodecmaaa.Mm
end
section
namespace Go.Proofs.Ytononmcodecmaaa.Mm
set_option maxRecDepth 100000
open Go.RowKit Go.Maps Go.Proofs
set_option linter.unusedVariables false
set_option linter.unusedSimpArgs false
theorem mem_apart {w : World} {p b n q nr : Nat} {f g : Nat → Nat} {l : List (Nat × Nat)} (h : MemAt w p b n f) (r : RefM w q nr g l) : p ≠ q ∧ b ≠ q ∧ ∀ v, OwnC w 0 v l → v.ownBlock = none ∨ v.ownBlock ≠ some b := by
 obtain ⟨v0, hq, _⟩ := r.at_
 obtain ⟨⟨D, ho, _⟩, _⟩ := h.map
 obtain ⟨es, clock, hb, _⟩ := ho
 refine ⟨fun e => ?_, fun e => ?_, fun v hv => ?_⟩
 ·have := h.ptr
  rw [e, hq] at this
  simp at this
 ·rw [e, hq] at hb
  simp at hb
 ·rcases hv.2 with ⟨h1, _⟩ | ⟨gg, cap, cur, rfl, _, hg, _⟩
  ·left; rw [h1]; rfl
  ·right
   intro e
   have e2 : gg = b := by simpa [Value.ownBlock] using e
   rw [e2, hb] at hg
   simp at hg
theorem RefM.other {w w' : World} {p b n q nr : Nat} {f g : Nat → Nat} {l : List (Nat × Nat)} (r : RefM w q nr g l) (h : MemAt w p b n f) (hg : w.grownBy w' (some b)) : RefM w' q nr g l := by
 obtain ⟨h1, h2, h3⟩ := mem_apart h r
 exact ⟨r.at_.kept hg (fun e => h2 (Option.some.inj e).symm) (fun v hv _ => h3 v hv), r.rep, r.len, r.lt⟩
theorem MemAt.byRef {w w' : World} {p b n q nr : Nat} {f g : Nat → Nat} {l : List (Nat × Nat)} (h : MemAt w p b n f) (r : RefM w q nr g l) (hg : w.grownBy w' (some q)) : MemAt w' p b n f := by
 obtain ⟨h1, h2, _⟩ := mem_apart h r
 exact h.other hg h1 h2
structure Two (W w : World) (p b q n : Nat) (f : Nat → Nat) (l : List (Nat × Nat)) : Prop where
 mem : MemAt w p b n f
 ref : RefM w q n f l
 hb : W.heap.size ≤ b
 hq : W.heap.size ≤ q
 bel : Below W.heap.size W w
theorem Two.below {W w w' : World} {p b q n : Nat} {f : Nat → Nat} {l : List (Nat × Nat)} (h : Two W w p b q n f l) (hB : Below w.heap.size w w') : Two W w' p b q n f l :=
 ⟨h.mem.below hB, h.ref.below hB, h.hb, h.hq, h.bel.trans (hB.mono h.bel.size)⟩
end Go.Proofs.Ytononmcodecmaaa.Mm
end
