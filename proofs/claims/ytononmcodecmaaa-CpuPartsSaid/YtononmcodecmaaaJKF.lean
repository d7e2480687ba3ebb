import Derived.Test.YtononmcodecmaaaJKE
import Derived.Test.YtononmcodecmaaaJMF
import Derived.Test.YtononmcodecmaaaJLA
import Derived.Test.YtononmcodecmaaaJQx
import Derived.WalkKit
import Derived.KernelRfl
import Derived.Below
import Derived.Outline
import Derived.LoopTactic
import Derived.Laws.BitsLemmas
import Derived.Laws.BitsAllLaws
import Derived.Deep.LoopGhost
import Derived.Lib.Hide
import Derived.Deep.QuietTactic
import Derived.BigQuiet
import Derived.Deep.Draws
import Derived.Laws.StructEq
import Derived.Deep.Slices
import Derived.Deep.Fields
import Derived.ChangeSame
import Derived.Deep.CutBlock
import Derived.Deep.DeepCutAuto
import Derived.Deep.RegionHeld3
import Derived.StillTailTactics
import Derived.WalkSmall
import Derived.OwnWalk
import Derived.Laws.OwnMore
import Derived.Laws.BytesArg
import Derived.Laws.MakeOwn
import Derived.Laws.Tables
import Derived.Laws.Rows
import Derived.Laws.World
/- Layer 4: the machine (part KF). -/
namespace Go.Proofs.Ytononmcodecmaaa.Cp
open Go.RowKit Go.Maps Go.Proofs Go.Proofs.YtononmcodecmaaaW Go.Proofs.YtononmcodecmaaaW.PrintWords
set_option maxRecDepth 100000
set_option linter.unusedVariables false
set_option linter.unusedSimpArgs false
attribute [local go_sem] cv_set cv_at cv_size
def sizev (op : Int) : Nat × Bool := if op = 10 then (1, true) else if op = 13 ∨ op = 15 then (1, false) else if op = 11 then (2, true) else if op = 14 ∨ op = 16 then (2, false) else (4, false)
theorem size_c (op : Int) (h : 10 ≤ op ∧ op ≤ 17) (w : World) : Calls Try.prog 71 #[.int .i64 op] w fun e w' => e = .returned (.tuple #[.int .i64 (sizev op).1, .bool (sizev op).2]) ∧ Below w.heap.size w w' := by
 obtain ⟨n, rfl⟩ : ∃ n : Fin 8, op = 10 + (n.val : Int) := ⟨⟨(op - 10).toNat, by omega⟩, by simp only; omega⟩
 have hs : ∀ n : Fin 8, Q.cpu_size.f 9 (10 + (n.val : Int)) = some (((sizev (10 + (n.val : Int))).1 : Int), (sizev (10 + (n.val : Int))).2) := by decide +kernel
 exact (Q.cpu_size.calls 9 _ _ _ w (hs n)).mono fun _ _ h => ⟨h.1, h.2.below⟩
theorem sizev_k (op : Int) : (sizev op).1 = 1 ∨ (sizev op).1 = 2 ∨ (sizev op).1 = 4 := by
 unfold sizev
 repeat' split
 all_goals simp
theorem Form_c (op : Int) (w : World) : Calls Try.prog 37 #[.int .i64 op] w fun e w' => e = .returned (.int .u8 (Q.frm op)) ∧ Below w.heap.size w w' :=
 Q.inst_Form.calls op _ w (Q.Form_eq op)
theorem Sign_c (v : Nat) (hv : v < 4294967296) (n : Int) (w : World) : Calls Try.prog 72 #[.int .u32 v, .int .i64 n] w fun e w' => e = .returned (.int .u32 (Q.sgn v n : Nat)) ∧ Below w.heap.size w w' :=
 (Q.word_Sign.calls 90 v n _ w (Q.Sign_eq v hv n 90 (by omega))).mono fun _ _ h => ⟨h.1, h.2.below⟩
def accessv (c : List Int) (f : Nat → Nat) (op rd a b m : Int) : List Int × (Nat → Nat) × Int :=
 if (reg c a.toNat + m) % 4294967296 % ((sizev op).1 : Int) ≠ 0 then (c, f, 5)
 else if Q.frm op = 83 then (c.set 32 ((reg c 32 + 4) % 4294967296), Mm.putn f ((reg c a.toNat + m) % 4294967296).toNat (fun j => (reg c b.toNat).toNat / 256 ^ j % 256) (sizev op).1, 0)
 else (rset c rd.toNat ((if (sizev op).2 = true then Q.sgn (Mm.ld f ((reg c a.toNat + m) % 4294967296).toNat (sizev op).1) (8 * ((sizev op).1 : Int)) else Mm.ld f ((reg c a.toNat + m) % 4294967296).toNat (sizev op).1 : Nat) : Int), f, 0)
def Post (w w' : World) (p b n : Nat) (f : Nat → Nat) : Prop := ∃ n', n' ≤ n + 4 ∧ Mm.MemAt w' p b n' f ∧ w.grownBy w' (some b)
theorem grownB {w w' : World} (h : Below w.heap.size w w') (row : Option Nat) : w.grownBy w' row := ⟨h.os, h.tape, h.output, h.size, fun i hi _ => h.block i hi⟩
theorem grown_below {w w1 w2 : World} {row : Option Nat} (h : w.grownBy w1 row) (hb : Below w1.heap.size w1 w2) : w.grownBy w2 row :=
 ⟨hb.os.trans h.os, hb.tape.trans h.tape, hb.output.trans h.output, Nat.le_trans h.size hb.size, fun i hi hr => (hb.block i (Nat.lt_of_lt_of_le hi h.size)).trans (h.block i hi hr)⟩
theorem grown_setRow {w w1 : World} {row : Option Nat} (h : w.grownBy w1 row) {g : Nat} (hg : w.heap.size ≤ g) (cs : Array Value) : w.grownBy (w1.setRow g cs) row :=
 ⟨h.os, h.tape, h.output, by simpa [World.setRow] using h.size, fun i hi hr => (setRow_other _ _ _ _ (by omega)).trans (h.block i hi hr)⟩
theorem grown_trans {w w1 w2 : World} {row : Option Nat} (h : w.grownBy w1 row) (k : w1.grownBy w2 row) : w.grownBy w2 row :=
 ⟨k.os.trans h.os, k.tape.trans h.tape, k.output.trans h.output, Nat.le_trans h.size k.size, fun i hi hr => (k.block i (Nat.lt_of_lt_of_le hi h.size) hr).trans (h.block i hi hr)⟩
theorem mem_setRow {w : World} {p b n : Nat} {f : Nat → Nat} (h : Mm.MemAt w p b n f) {g : Nat} (hp : p ≠ g) (hb : b ≠ g) (cs : Array Value) : Mm.MemAt (w.setRow g cs) p b n f :=
 h.kept (row := some g) ⟨rfl, rfl, rfl, by simp [World.setRow], fun i hi hr => setRow_other _ _ _ _ (fun e => hr (by rw [e]))⟩ (fun e => hb (by injection e)) (fun e => hp (by injection e))
theorem postB {w w' : World} {p b n : Nat} {f : Nat → Nat} (h : Mm.MemAt w p b n f) (hB : Below w.heap.size w w') : Post w w' p b n f := ⟨n, by omega, h.below hB, grownB hB _⟩
set_option maxHeartbeats 2000000 in
theorem access_calls (c : List Int) (hc : Wc c) (op : Int) (rd a b : Nat) (hr1 : rd < 32) (ha : a < 32) (hb : b < 32) (m : Int) (hop : 10 ≤ op ∧ op ≤ 17) (p bl n : Nat) (f : Nat → Nat) (w : World) (hM : Mm.MemAt w p bl n f) (hn : n < 80000000) (hf : ∀ x, f x < 256) :
  Calls Try.prog 39 #[.agg (cv c), .pointer (some ⟨p, 0, none⟩), ia op rd a b m] w fun e w' => e = .returned (.tuple #[.agg (cv (accessv c f op rd a b m).1), .int .i64 (accessv c f op rd a b m).2.2]) ∧ Post w w' p bl n (accessv c f op rd a b m).2.1 := by
 have hl := hc.len
 unfold accessv
 simp only [Int.toNat_natCast]
 have HSZ := Lib.hid (size_c op hop)
 have hk := sizev_k op
 have HF := Lib.hid (Form_c op)
 have ha' : (a : Int) < 32 := by omega
 have hb' : (b : Int) < 32 := by omega
 have hlp := hM.lt
 have hlb := hM.map.lt
 have HM := Lib.hid hM
 clear hM
 obtain ⟨k, sg, hs⟩ : ∃ k sg, sizev op = (k, sg) := ⟨_, _, rfl⟩
 rw [hs] at HSZ hk ⊢
 simp only at HSZ hk ⊢
 obtain ⟨at_, hat⟩ : ∃ at_ : Nat, (reg c a + m) % 4294967296 = (at_ : Int) := ⟨((reg c a + m) % 4294967296).toNat, by have := mod_rng (reg c a + m); omega⟩
 have hat2 : at_ < 4294967296 := by have := mod_rng (reg c a + m); omega
 have hatw : IntKind.u32.wrap (reg c a + IntKind.u32.wrap m) = (at_ : Int) := by rw [← hat, IntKind.wrap_u32, IntKind.wrap_u32, Int.add_emod_emod]
 rw [hat]
 simp only [Int.toNat_natCast]
 have hkk : ¬ (k : Int) = 0 := by omega
 have hk0 : ¬ k = 0 := by omega
 have hkm : (k : Int) % 4294967296 = (k : Int) := by omega
 have htm : Int.tmod (at_ : Int) (k : Int) = ((at_ % k : Nat) : Int) := rfl
 have HWc := Lib.hid hc
 clear hs hop hc
 by_cases hmis : (at_ : Int) % (k : Int) ≠ 0
 ·rw [if_pos hmis]
  have hm2 : ¬ at_ % k = 0 := by omega
  have hm3 : (((at_ % k : Nat) : Int) != 0) = true := bne_iff_ne.mpr (by omega)
  clear hmis
  go_enter Try.func39, Try.ntmps39
  go_wp2_with (first | refine alC rfl rfl ?_ | (go_at_call 71; refine hold_ ?_))
  intro _
  refine (HSZ.out _).mono ?_
  rintro e w3 ⟨rfl, hbw⟩
  obtain ⟨k0, k1, k2, hz, hB⟩ := keep3 hbw
  clear hbw HSZ
  have HB := Lib.hid hB.drew
  have K0 := Lib.hid (show w3.drew.heap[w.heap.size]? = _ from k0)
  have K1 := Lib.hid (show w3.drew.heap[w.heap.size + 1]? = _ from k1)
  have K2 := Lib.hid (show w3.drew.heap[w.heap.size + 2]? = _ from k2)
  have hzd : w.heap.size + 3 ≤ w3.drew.heap.size := hz
  have x2 := cellOf k1 2
  have x4 := cellOf k1 4
  simp at x2 x4
  have ca := cellC k0 hl a (by omega)
  clear hB k0 k1 k2
  go_wp2
  refine wp_region_held_drew (S := fun w' => w'.cell? ⟨w.heap.size + 1, 2, none⟩ = some (.int .i64 a) ∧ w'.cell? ⟨w.heap.size + 1, 4, none⟩ = some (.int .i64 m) ∧ w'.cell? ⟨w.heap.size, a, none⟩ = some (.int .u32 (reg c a)) ∧ Aside0 (w' = w3.drew)) (by kernel_rfl) ⟨x2, x4, ca, ⟨rfl⟩⟩ (fun hHeld => ?_)
  refine rh_take (i := 0) (k := 19) (v := ?_) rfl rfl (by kernel_rfl) (by kernel_rfl) (by kernel_rfl) (fun _ _ _ h => h) (Or.inl ⟨by rfl, ?_⟩) hHeld ?_
  rotate_left
  ·(intro w hSw; obtain ⟨s0, s1, s2, s3⟩ := hSw; go_simp; try with_reducible rfl)
  simp only [Act.put, List.setIfInBounds_toArray, List.set_cons_zero, List.set_cons_succ]
  refine rh_take (i := 1) (k := 20) (v := ?_) rfl rfl (by kernel_rfl) (by kernel_rfl) (by kernel_rfl) (fun _ _ _ h => h) (Or.inl ⟨by rfl, ?_⟩) hHeld ?_
  rotate_left
  ·(intro w hSw; obtain ⟨s0, s1, s2, s3⟩ := hSw; go_simp; try with_reducible rfl)
  simp only [Act.put, List.setIfInBounds_toArray, List.set_cons_zero, List.set_cons_succ]
  refine rh_take (i := 2) (k := 21) (v := ?_) rfl rfl (by kernel_rfl) (by kernel_rfl) (by kernel_rfl) (fun _ _ _ h => h) (Or.inl ⟨by rfl, ?_⟩) hHeld ?_
  rotate_left
  ·(intro w hSw; obtain ⟨s0, s1, s2, s3⟩ := hSw; go_simp; try with_reducible rfl)
  simp only [Act.put, List.setIfInBounds_toArray, List.set_cons_zero, List.set_cons_succ]
  refine rh_take (i := 3) (k := 22) (v := ?_) rfl rfl (by kernel_rfl) (by kernel_rfl) (by kernel_rfl) (fun _ _ _ h => h) (Or.inl ⟨by rfl, ?_⟩) hHeld ?_
  rotate_left
  ·(intro w hSw; obtain ⟨s0, s1, s2, s3⟩ := hSw; go_simp; try with_reducible rfl)
  simp only [Act.put, List.setIfInBounds_toArray, List.set_cons_zero, List.set_cons_succ]
  refine rh_take (i := 4) (k := 23) (v := ?_) rfl rfl (by kernel_rfl) (by kernel_rfl) (by kernel_rfl) (fun _ _ _ h => h) (Or.inl ⟨by rfl, ?_⟩) hHeld ?_
  rotate_left
  ·(intro w hSw; obtain ⟨s0, s1, s2, s3⟩ := hSw; go_simp; try with_reducible rfl)
  simp only [Act.put, List.setIfInBounds_toArray, List.set_cons_zero, List.set_cons_succ]
  refine rh_take (i := 5) (k := 24) (v := ?_) rfl rfl (by kernel_rfl) (by kernel_rfl) (by kernel_rfl) (fun _ _ _ h => h) (Or.inl ⟨by rfl, ?_⟩) hHeld ?_
  rotate_left
  ·(intro w hSw; obtain ⟨s0, s1, s2, s3⟩ := hSw; go_simp; try with_reducible rfl)
  simp only [Act.put, List.setIfInBounds_toArray, List.set_cons_zero, List.set_cons_succ]
  refine rh_take (i := 6) (k := 25) (v := ?_) rfl rfl (by kernel_rfl) (by kernel_rfl) (by kernel_rfl) (fun _ _ _ h => h) (Or.inl ⟨by rfl, ?_⟩) hHeld ?_
  rotate_left
  ·(intro w hSw; obtain ⟨s0, s1, s2, s3⟩ := hSw; go_simp; try with_reducible rfl)
  simp only [Act.put, List.setIfInBounds_toArray, List.set_cons_zero, List.set_cons_succ]
  refine rh_take (i := 7) (k := 26) (v := ?_) rfl rfl (by kernel_rfl) (by kernel_rfl) (by kernel_rfl) (fun _ _ _ h => h) (Or.inl ⟨by rfl, ?_⟩) hHeld ?_
  rotate_left
  ·(intro w hSw; obtain ⟨s0, s1, s2, s3⟩ := hSw; go_simp; try with_reducible rfl)
  simp only [Act.put, List.setIfInBounds_toArray, List.set_cons_zero, List.set_cons_succ]
  refine rh_take (i := 8) (k := 27) (v := ?_) rfl rfl (by kernel_rfl) (by kernel_rfl) (by kernel_rfl) (fun _ _ _ h => h) (Or.inl ⟨by rfl, ?_⟩) hHeld ?_
  rotate_left
  ·(intro w hSw; obtain ⟨s0, s1, s2, s3⟩ := hSw; go_simp; try with_reducible rfl)
  simp only [Act.put, List.setIfInBounds_toArray, List.set_cons_zero, List.set_cons_succ]
  refine rh_take (i := 9) (k := 10) (v := ?_) rfl rfl (by kernel_rfl) (by kernel_rfl) (by kernel_rfl) (fun _ _ _ h => h) (Or.inl ⟨by rfl, ?_⟩) hHeld ?_
  rotate_left
  ·(intro w hSw; obtain ⟨s0, s1, s2, s3⟩ := hSw; go_simp; try with_reducible rfl)
  simp only [Act.put, List.setIfInBounds_toArray, List.set_cons_zero, List.set_cons_succ]
  refine wpAnyH_done (by kernel_rfl) ?_ _
  clear hHeld x2 x4 ca hz
  generalize w3.drew = w4 at *
  go_wp2_with (first | refine ldC rfl _ rfl _ rfl _ (0, 0) K0.out hl ?_ | refine stC rfl _ _ rfl _ _ rfl rfl zs K2.out hl rfl ?_)
  refine retC2 rfl rfl (setRow_heap _ _ _ _ _ _ K2.out) hl rfl rfl ⟨rfl, postB HM.out (below_setRow HB.out (by omega) _)⟩
 rw [if_neg hmis]
 have hm2 : at_ % k = 0 := by omega
 have hm3 : (((at_ % k : Nat) : Int) != 0) = false := by rw [hm2]; rfl
 clear hmis
 by_cases hS : Q.frm op = 83
 ·rw [if_pos hS]
  rw [hS] at HF
  obtain ⟨v, hv⟩ : ∃ v : Nat, reg c b = (v : Int) := ⟨(reg c b).toNat, by have := HWc.out.rng b; omega⟩
  have hv2 : v < 4294967296 := by have := HWc.out.rng b; omega
  rw [show (reg c b).toNat = v by omega]
  clear hS
  go_enter Try.func39, Try.ntmps39
  go_wp2_with (first | refine alC rfl rfl ?_ | (go_at_call 71; refine hold_ ?_))
  intro _
  refine (HSZ.out _).mono ?_
  rintro e w3 ⟨rfl, hbw⟩
  obtain ⟨k0, k1, k2, hz, hB⟩ := keep3 hbw
  clear hbw HSZ
  have HB := Lib.hid hB.drew
  have K0 := Lib.hid (show w3.drew.heap[w.heap.size]? = _ from k0)
  have K1 := Lib.hid (show w3.drew.heap[w.heap.size + 1]? = _ from k1)
  have K2 := Lib.hid (show w3.drew.heap[w.heap.size + 2]? = _ from k2)
  have hzd : w.heap.size + 3 ≤ w3.drew.heap.size := hz
  have x2 := cellOf k1 2
  have x4 := cellOf k1 4
  simp at x2 x4
  have ca := cellC k0 hl a (by omega)
  clear hB k0 k1 k2
  go_wp2
  refine wp_region_held_drew (S := fun w' => w'.cell? ⟨w.heap.size + 1, 2, none⟩ = some (.int .i64 a) ∧ w'.cell? ⟨w.heap.size + 1, 4, none⟩ = some (.int .i64 m) ∧ w'.cell? ⟨w.heap.size, a, none⟩ = some (.int .u32 (reg c a)) ∧ Aside0 (w' = w3.drew)) (by kernel_rfl) ⟨x2, x4, ca, ⟨rfl⟩⟩ (fun hHeld => ?_)
  refine rh_take (i := 0) (k := 19) (v := ?_) rfl rfl (by kernel_rfl) (by kernel_rfl) (by kernel_rfl) (fun _ _ _ h => h) (Or.inl ⟨by rfl, ?_⟩) hHeld ?_
  rotate_left
  ·(intro w hSw; obtain ⟨s0, s1, s2, s3⟩ := hSw; go_simp; try with_reducible rfl)
  simp only [Act.put, List.setIfInBounds_toArray, List.set_cons_zero, List.set_cons_succ]
  refine rh_take (i := 1) (k := 20) (v := ?_) rfl rfl (by kernel_rfl) (by kernel_rfl) (by kernel_rfl) (fun _ _ _ h => h) (Or.inl ⟨by rfl, ?_⟩) hHeld ?_
  rotate_left
  ·(intro w hSw; obtain ⟨s0, s1, s2, s3⟩ := hSw; go_simp; try with_reducible rfl)
  simp only [Act.put, List.setIfInBounds_toArray, List.set_cons_zero, List.set_cons_succ]
  refine rh_take (i := 2) (k := 21) (v := ?_) rfl rfl (by kernel_rfl) (by kernel_rfl) (by kernel_rfl) (fun _ _ _ h => h) (Or.inl ⟨by rfl, ?_⟩) hHeld ?_
  rotate_left
  ·(intro w hSw; obtain ⟨s0, s1, s2, s3⟩ := hSw; go_simp; try with_reducible rfl)
  simp only [Act.put, List.setIfInBounds_toArray, List.set_cons_zero, List.set_cons_succ]
  refine rh_take (i := 3) (k := 22) (v := ?_) rfl rfl (by kernel_rfl) (by kernel_rfl) (by kernel_rfl) (fun _ _ _ h => h) (Or.inl ⟨by rfl, ?_⟩) hHeld ?_
  rotate_left
  ·(intro w hSw; obtain ⟨s0, s1, s2, s3⟩ := hSw; go_simp; try with_reducible rfl)
  simp only [Act.put, List.setIfInBounds_toArray, List.set_cons_zero, List.set_cons_succ]
  refine rh_take (i := 4) (k := 23) (v := ?_) rfl rfl (by kernel_rfl) (by kernel_rfl) (by kernel_rfl) (fun _ _ _ h => h) (Or.inl ⟨by rfl, ?_⟩) hHeld ?_
  rotate_left
  ·(intro w hSw; obtain ⟨s0, s1, s2, s3⟩ := hSw; go_simp; try with_reducible rfl)
  simp only [Act.put, List.setIfInBounds_toArray, List.set_cons_zero, List.set_cons_succ]
  refine rh_take (i := 5) (k := 24) (v := ?_) rfl rfl (by kernel_rfl) (by kernel_rfl) (by kernel_rfl) (fun _ _ _ h => h) (Or.inl ⟨by rfl, ?_⟩) hHeld ?_
  rotate_left
  ·(intro w hSw; obtain ⟨s0, s1, s2, s3⟩ := hSw; go_simp; try with_reducible rfl)
  simp only [Act.put, List.setIfInBounds_toArray, List.set_cons_zero, List.set_cons_succ]
  refine rh_take (i := 6) (k := 25) (v := ?_) rfl rfl (by kernel_rfl) (by kernel_rfl) (by kernel_rfl) (fun _ _ _ h => h) (Or.inl ⟨by rfl, ?_⟩) hHeld ?_
  rotate_left
  ·(intro w hSw; obtain ⟨s0, s1, s2, s3⟩ := hSw; go_simp; try with_reducible rfl)
  simp only [Act.put, List.setIfInBounds_toArray, List.set_cons_zero, List.set_cons_succ]
  refine rh_take (i := 7) (k := 26) (v := ?_) rfl rfl (by kernel_rfl) (by kernel_rfl) (by kernel_rfl) (fun _ _ _ h => h) (Or.inl ⟨by rfl, ?_⟩) hHeld ?_
  rotate_left
  ·(intro w hSw; obtain ⟨s0, s1, s2, s3⟩ := hSw; go_simp; try with_reducible rfl)
  simp only [Act.put, List.setIfInBounds_toArray, List.set_cons_zero, List.set_cons_succ]
  refine rh_take (i := 8) (k := 27) (v := ?_) rfl rfl (by kernel_rfl) (by kernel_rfl) (by kernel_rfl) (fun _ _ _ h => h) (Or.inl ⟨by rfl, ?_⟩) hHeld ?_
  rotate_left
  ·(intro w hSw; obtain ⟨s0, s1, s2, s3⟩ := hSw; go_simp; try with_reducible rfl)
  simp only [Act.put, List.setIfInBounds_toArray, List.set_cons_zero, List.set_cons_succ]
  refine rh_take (i := 9) (k := 10) (v := ?_) rfl rfl (by kernel_rfl) (by kernel_rfl) (by kernel_rfl) (fun _ _ _ h => h) (Or.inl ⟨by rfl, ?_⟩) hHeld ?_
  rotate_left
  ·(intro w hSw; obtain ⟨s0, s1, s2, s3⟩ := hSw; go_simp; try with_reducible rfl)
  simp only [Act.put, List.setIfInBounds_toArray, List.set_cons_zero, List.set_cons_succ]
  refine wpAnyH_done (by kernel_rfl) ?_ _
  clear hHeld x2 x4 ca hz
  generalize w3.drew = w4 at *
  have x0 := cellOf K1.out 0
  simp at x0
  have hz1 : w.heap.size + 1 < w4.heap.size := by omega
  go_wp2_with (go_at_call 37; refine hold_ ?_)
  intro _
  refine (HF.out _).mono ?_
  rintro e w5 ⟨rfl, hbw⟩
  have K0' := Lib.hid ((hbw.block w.heap.size (by omega)).trans K0.out)
  have K1' := Lib.hid ((hbw.block (w.heap.size + 1) (by omega)).trans K1.out)
  have K2' := Lib.hid ((hbw.block (w.heap.size + 2) (by omega)).trans K2.out)
  have HB' := Lib.hid (belowS hbw HB.out)
  have hz : w.heap.size + 3 ≤ w5.heap.size := Nat.le_trans hzd hbw.size
  have HM' := Lib.hid (HM.out.below HB'.out)
  clear hbw x0 K0 K1 K2 HB hzd hz1
  have x3 := cellOf K1'.out 3
  simp at x3
  have cb := cellC K0'.out hl b (by omega)
  rw [hv] at cb
  have hz0 : w.heap.size < w5.heap.size := by omega
  have hz1 : w.heap.size + 1 < w5.heap.size := by omega
  go_wp2_with (go_at_call 18; refine hold_ ?_)
  intro _
  refine (Mm.Store_at HM'.out at_ k v _ _ _ rfl rfl rfl (by omega) hat2 hv2 hk).mono ?_
  rintro e w6 ⟨rfl, hm6, hg6⟩
  have K0 := Lib.hid ((hg6.block w.heap.size (by omega) (fun e => by injection e with e; omega)).trans K0'.out)
  have K2 := Lib.hid ((hg6.block (w.heap.size + 2) (by omega) (fun e => by injection e with e; omega)).trans K2'.out)
  have hz6 : w.heap.size + 3 ≤ w6.heap.size := Nat.le_trans hz hg6.size
  have HG := Lib.hid (grown_trans (grownB HB'.out (some bl)) hg6)
  clear HM' K0' K1' K2' HB' x3 cb hz0 hz1 hg6 hz
  have HM' := Lib.hid hm6
  clear hm6
  have hz0 : w.heap.size < w6.heap.size := by omega
  have hf0 : World.frozen? w6 ⟨w.heap.size, 32, none⟩ = false := frozen_of_row _ _ _ _ _ K0.out
  have hcl := cellC K0.out hl 32 (by omega)
  have hst := stRow K0.out 32 ((reg c 32 + 4) % 4294967296)
  have hl2 : (c.set 32 ((reg c 32 + 4) % 4294967296)).length = 33 := by rw [List.length_set]; exact hl
  have K0q := Lib.hid (setRow_heap w6 w.heap.size _ (cv (c.set 32 ((reg c 32 + 4) % 4294967296))) _ _ K0.out)
  have K2q := Lib.hid ((setRow_other w6 w.heap.size (w.heap.size + 2) (cv (c.set 32 ((reg c 32 + 4) % 4294967296))) (by omega)).trans K2.out)
  go_wp2_with (first | refine ldC rfl _ rfl _ rfl _ (0, 0) K0q.out hl2 ?_ | refine stC rfl _ _ rfl _ _ rfl rfl zs K2q.out hl2 rfl ?_)
  refine retC2 rfl rfl (setRow_heap _ _ _ _ _ _ K2q.out) hl2 rfl rfl ⟨rfl, _, ?_, mem_setRow (mem_setRow HM'.out (by omega) (by omega) _) (by omega) (by omega) _, grown_setRow (grown_setRow HG.out (by omega) _) (by omega) _⟩
  omega
 ·rw [if_neg hS]
  have bS : (Q.frm op == 83) = false := beq_eq_false_iff_ne.mpr hS
  have hld := Mm.ld_lt f at_ k hf
  have hpw : 256 ^ k ≤ 4294967296 := by rcases hk with rfl | rfl | rfl <;> decide
  obtain ⟨v, hv⟩ : ∃ v, v = Mm.ld f at_ k := ⟨_, rfl⟩
  rw [← hv] at hld ⊢
  have hv4 : v < 4294967296 := by omega
  have HV := Lib.hid hv
  clear hv hS hld hpw
  cases sg
  ·rw [if_neg (by decide)]
   have HS := Lib.hid (set_calls c hl rd hr1 (v : Int))
   have hpc : reg (if rd = 0 then c else c.set rd (v : Int)) 32 = reg c 32 := by
    split
    ·rfl
    ·exact reg_set_ne _ _ _ _ (by omega)
   have hld : (if rd = 0 then c else c.set rd (v : Int)).length = 33 := by
    split
    ·exact hl
    ·rw [List.length_set]; exact hl
   unfold rset
   generalize (if rd = 0 then c else c.set rd (v : Int)) = d at *
   rw [← hpc]
   have HPC := Lib.hid hpc
   clear hpc
   go_enter Try.func39, Try.ntmps39
   go_wp2_with (first | refine alC rfl rfl ?_ | (go_at_call 71; refine hold_ ?_))
   intro _
   refine (HSZ.out _).mono ?_
   rintro e w3 ⟨rfl, hbw⟩
   obtain ⟨k0, k1, k2, hz, hB⟩ := keep3 hbw
   clear hbw HSZ
   have HB := Lib.hid hB.drew
   have K0 := Lib.hid (show w3.drew.heap[w.heap.size]? = _ from k0)
   have K1 := Lib.hid (show w3.drew.heap[w.heap.size + 1]? = _ from k1)
   have K2 := Lib.hid (show w3.drew.heap[w.heap.size + 2]? = _ from k2)
   have hzd : w.heap.size + 3 ≤ w3.drew.heap.size := hz
   have x2 := cellOf k1 2
   have x4 := cellOf k1 4
   simp at x2 x4
   have ca := cellC k0 hl a (by omega)
   clear hB k0 k1 k2
   go_wp2
   refine wp_region_held_drew (S := fun w' => w'.cell? ⟨w.heap.size + 1, 2, none⟩ = some (.int .i64 a) ∧ w'.cell? ⟨w.heap.size + 1, 4, none⟩ = some (.int .i64 m) ∧ w'.cell? ⟨w.heap.size, a, none⟩ = some (.int .u32 (reg c a)) ∧ Aside0 (w' = w3.drew)) (by kernel_rfl) ⟨x2, x4, ca, ⟨rfl⟩⟩ (fun hHeld => ?_)
   refine rh_take (i := 0) (k := 19) (v := ?_) rfl rfl (by kernel_rfl) (by kernel_rfl) (by kernel_rfl) (fun _ _ _ h => h) (Or.inl ⟨by rfl, ?_⟩) hHeld ?_
   rotate_left
   ·(intro w hSw; obtain ⟨s0, s1, s2, s3⟩ := hSw; go_simp; try with_reducible rfl)
   simp only [Act.put, List.setIfInBounds_toArray, List.set_cons_zero, List.set_cons_succ]
   refine rh_take (i := 1) (k := 20) (v := ?_) rfl rfl (by kernel_rfl) (by kernel_rfl) (by kernel_rfl) (fun _ _ _ h => h) (Or.inl ⟨by rfl, ?_⟩) hHeld ?_
   rotate_left
   ·(intro w hSw; obtain ⟨s0, s1, s2, s3⟩ := hSw; go_simp; try with_reducible rfl)
   simp only [Act.put, List.setIfInBounds_toArray, List.set_cons_zero, List.set_cons_succ]
   refine rh_take (i := 2) (k := 21) (v := ?_) rfl rfl (by kernel_rfl) (by kernel_rfl) (by kernel_rfl) (fun _ _ _ h => h) (Or.inl ⟨by rfl, ?_⟩) hHeld ?_
   rotate_left
   ·(intro w hSw; obtain ⟨s0, s1, s2, s3⟩ := hSw; go_simp; try with_reducible rfl)
   simp only [Act.put, List.setIfInBounds_toArray, List.set_cons_zero, List.set_cons_succ]
   refine rh_take (i := 3) (k := 22) (v := ?_) rfl rfl (by kernel_rfl) (by kernel_rfl) (by kernel_rfl) (fun _ _ _ h => h) (Or.inl ⟨by rfl, ?_⟩) hHeld ?_
   rotate_left
   ·(intro w hSw; obtain ⟨s0, s1, s2, s3⟩ := hSw; go_simp; try with_reducible rfl)
   simp only [Act.put, List.setIfInBounds_toArray, List.set_cons_zero, List.set_cons_succ]
   refine rh_take (i := 4) (k := 23) (v := ?_) rfl rfl (by kernel_rfl) (by kernel_rfl) (by kernel_rfl) (fun _ _ _ h => h) (Or.inl ⟨by rfl, ?_⟩) hHeld ?_
   rotate_left
   ·(intro w hSw; obtain ⟨s0, s1, s2, s3⟩ := hSw; go_simp; try with_reducible rfl)
   simp only [Act.put, List.setIfInBounds_toArray, List.set_cons_zero, List.set_cons_succ]
   refine rh_take (i := 5) (k := 24) (v := ?_) rfl rfl (by kernel_rfl) (by kernel_rfl) (by kernel_rfl) (fun _ _ _ h => h) (Or.inl ⟨by rfl, ?_⟩) hHeld ?_
   rotate_left
   ·(intro w hSw; obtain ⟨s0, s1, s2, s3⟩ := hSw; go_simp; try with_reducible rfl)
   simp only [Act.put, List.setIfInBounds_toArray, List.set_cons_zero, List.set_cons_succ]
   refine rh_take (i := 6) (k := 25) (v := ?_) rfl rfl (by kernel_rfl) (by kernel_rfl) (by kernel_rfl) (fun _ _ _ h => h) (Or.inl ⟨by rfl, ?_⟩) hHeld ?_
   rotate_left
   ·(intro w hSw; obtain ⟨s0, s1, s2, s3⟩ := hSw; go_simp; try with_reducible rfl)
   simp only [Act.put, List.setIfInBounds_toArray, List.set_cons_zero, List.set_cons_succ]
   refine rh_take (i := 7) (k := 26) (v := ?_) rfl rfl (by kernel_rfl) (by kernel_rfl) (by kernel_rfl) (fun _ _ _ h => h) (Or.inl ⟨by rfl, ?_⟩) hHeld ?_
   rotate_left
   ·(intro w hSw; obtain ⟨s0, s1, s2, s3⟩ := hSw; go_simp; try with_reducible rfl)
   simp only [Act.put, List.setIfInBounds_toArray, List.set_cons_zero, List.set_cons_succ]
   refine rh_take (i := 8) (k := 27) (v := ?_) rfl rfl (by kernel_rfl) (by kernel_rfl) (by kernel_rfl) (fun _ _ _ h => h) (Or.inl ⟨by rfl, ?_⟩) hHeld ?_
   rotate_left
   ·(intro w hSw; obtain ⟨s0, s1, s2, s3⟩ := hSw; go_simp; try with_reducible rfl)
   simp only [Act.put, List.setIfInBounds_toArray, List.set_cons_zero, List.set_cons_succ]
   refine rh_take (i := 9) (k := 10) (v := ?_) rfl rfl (by kernel_rfl) (by kernel_rfl) (by kernel_rfl) (fun _ _ _ h => h) (Or.inl ⟨by rfl, ?_⟩) hHeld ?_
   rotate_left
   ·(intro w hSw; obtain ⟨s0, s1, s2, s3⟩ := hSw; go_simp; try with_reducible rfl)
   simp only [Act.put, List.setIfInBounds_toArray, List.set_cons_zero, List.set_cons_succ]
   refine wpAnyH_done (by kernel_rfl) ?_ _
   clear hHeld x2 x4 ca hz
   generalize w3.drew = w4 at *
   have x0 := cellOf K1.out 0
   simp at x0
   have hz1 : w.heap.size + 1 < w4.heap.size := by omega
   go_wp2_with (go_at_call 37; refine hold_ ?_)
   intro _
   refine (HF.out _).mono ?_
   rintro e w5 ⟨rfl, hbw⟩
   have K0' := Lib.hid ((hbw.block w.heap.size (by omega)).trans K0.out)
   have K1' := Lib.hid ((hbw.block (w.heap.size + 1) (by omega)).trans K1.out)
   have K2' := Lib.hid ((hbw.block (w.heap.size + 2) (by omega)).trans K2.out)
   have HB' := Lib.hid (belowS hbw HB.out)
   have hz : w.heap.size + 3 ≤ w5.heap.size := Nat.le_trans hzd hbw.size
   have HM' := Lib.hid (HM.out.below HB'.out)
   clear hbw x0 K0 K1 K2 HB hzd hz1
   go_wp2_with (go_at_call 35; refine hold_ ?_)
   intro _
   refine (Mm.Load_at HM'.out at_ k v _ _ rfl rfl HV.out hat2 hk).mono ?_
   rintro e _ ⟨rfl, rfl⟩
   have x1 := cellOf K1'.out 1
   simp at x1
   have hz1 : w.heap.size + 1 < w5.heap.size := by omega
   go_wp2_with (first | refine ldC rfl _ rfl _ rfl _ (0, 0) K0'.out hl ?_ | (go_at_call 23; refine hold_ ?_))
   intro _
   refine (HS.out _).mono ?_
   rintro e w6 ⟨rfl, hbw⟩
   have hk0' := (hbw.block w.heap.size (by omega)).trans K0'.out
   have K2c := Lib.hid ((setRow_other w6 w.heap.size (w.heap.size + 2) (cv d) (by omega)).trans ((hbw.block (w.heap.size + 2) (by omega)).trans K2'.out))
   have HB := Lib.hid (belowS hbw HB'.out)
   have hz6 : w.heap.size + 3 ≤ w6.heap.size := Nat.le_trans hz hbw.size
   have K0c := Lib.hid (setRow_heap w6 w.heap.size _ (cv d) _ _ hk0')
   have K0 := Lib.hid hk0'
   have HG := Lib.hid (grown_setRow (grownB HB.out (some bl)) (Nat.le_refl _) (cv d))
   have HM2 := Lib.hid (mem_setRow (HM.out.below HB.out) (g := w.heap.size) (by omega) (by omega) (cv d))
   have hzs : w.heap.size < (w6.setRow w.heap.size (cv d)).heap.size := by
    have : (w6.setRow w.heap.size (cv d)).heap.size = w6.heap.size := by simp [World.setRow]
    omega
   clear hbw K0' K1' K2' HB' hz x1 HS hk0' hz1
   have hf0 : World.frozen? (w6.setRow w.heap.size (cv d)) ⟨w.heap.size, 32, none⟩ = false := frozen_of_row _ _ _ _ _ K0c.out
   have hcl := cellC K0c.out hld 32 (by omega)
   have hst := stRow K0c.out 32 ((reg d 32 + 4) % 4294967296)
   have hl2 : (d.set 32 ((reg d 32 + 4) % 4294967296)).length = 33 := by rw [List.length_set]; exact hld
   have K0q := Lib.hid (setRow_heap _ w.heap.size _ (cv (d.set 32 ((reg d 32 + 4) % 4294967296))) _ _ K0c.out)
   have K2q := Lib.hid ((setRow_other _ w.heap.size (w.heap.size + 2) (cv (d.set 32 ((reg d 32 + 4) % 4294967296))) (by omega)).trans K2c.out)
   go_wp2_with (first | refine stC rfl _ _ rfl _ _ rfl rfl c K0.out hld hl ?_ | refine ldC rfl _ rfl _ rfl _ (0, 0) K0q.out hl2 ?_ | refine stC rfl _ _ rfl _ _ rfl rfl zs K2q.out hl2 rfl ?_)
   refine retC2 rfl rfl (setRow_heap _ _ _ _ _ _ K2q.out) hl2 rfl rfl ⟨rfl, _, ?_, mem_setRow (mem_setRow HM2.out (by omega) (by omega) _) (by omega) (by omega) _, grown_setRow (grown_setRow HG.out (by omega) _) (by omega) _⟩
   omega
  ·rw [if_pos rfl]
   have HS := Lib.hid (set_calls c hl rd hr1 ((Q.sgn v (8 * (k : Int)) : Nat) : Int))
   have HSG := Lib.hid (Sign_c v hv4 (8 * (k : Int)))
   have wk8 : IntKind.i64.wrap (8 * (k : Int)) = 8 * (k : Int) := by rw [IntKind.wrap_i64]; omega
   generalize Q.sgn v (8 * (k : Int)) = u at *
   have hpc : reg (if rd = 0 then c else c.set rd (u : Int)) 32 = reg c 32 := by
    split
    ·rfl
    ·exact reg_set_ne _ _ _ _ (by omega)
   have hld : (if rd = 0 then c else c.set rd (u : Int)).length = 33 := by
    split
    ·exact hl
    ·rw [List.length_set]; exact hl
   unfold rset
   generalize (if rd = 0 then c else c.set rd (u : Int)) = d at *
   rw [← hpc]
   have HPC := Lib.hid hpc
   clear hpc
   go_enter Try.func39, Try.ntmps39
   go_wp2_with (first | refine alC rfl rfl ?_ | (go_at_call 71; refine hold_ ?_))
   intro _
   refine (HSZ.out _).mono ?_
   rintro e w3 ⟨rfl, hbw⟩
   obtain ⟨k0, k1, k2, hz, hB⟩ := keep3 hbw
   clear hbw HSZ
   have HB := Lib.hid hB.drew
   have K0 := Lib.hid (show w3.drew.heap[w.heap.size]? = _ from k0)
   have K1 := Lib.hid (show w3.drew.heap[w.heap.size + 1]? = _ from k1)
   have K2 := Lib.hid (show w3.drew.heap[w.heap.size + 2]? = _ from k2)
   have hzd : w.heap.size + 3 ≤ w3.drew.heap.size := hz
   have x2 := cellOf k1 2
   have x4 := cellOf k1 4
   simp at x2 x4
   have ca := cellC k0 hl a (by omega)
   clear hB k0 k1 k2
   go_wp2
   refine wp_region_held_drew (S := fun w' => w'.cell? ⟨w.heap.size + 1, 2, none⟩ = some (.int .i64 a) ∧ w'.cell? ⟨w.heap.size + 1, 4, none⟩ = some (.int .i64 m) ∧ w'.cell? ⟨w.heap.size, a, none⟩ = some (.int .u32 (reg c a)) ∧ Aside0 (w' = w3.drew)) (by kernel_rfl) ⟨x2, x4, ca, ⟨rfl⟩⟩ (fun hHeld => ?_)
   refine rh_take (i := 0) (k := 19) (v := ?_) rfl rfl (by kernel_rfl) (by kernel_rfl) (by kernel_rfl) (fun _ _ _ h => h) (Or.inl ⟨by rfl, ?_⟩) hHeld ?_
   rotate_left
   ·(intro w hSw; obtain ⟨s0, s1, s2, s3⟩ := hSw; go_simp; try with_reducible rfl)
   simp only [Act.put, List.setIfInBounds_toArray, List.set_cons_zero, List.set_cons_succ]
   refine rh_take (i := 1) (k := 20) (v := ?_) rfl rfl (by kernel_rfl) (by kernel_rfl) (by kernel_rfl) (fun _ _ _ h => h) (Or.inl ⟨by rfl, ?_⟩) hHeld ?_
   rotate_left
   ·(intro w hSw; obtain ⟨s0, s1, s2, s3⟩ := hSw; go_simp; try with_reducible rfl)
   simp only [Act.put, List.setIfInBounds_toArray, List.set_cons_zero, List.set_cons_succ]
   refine rh_take (i := 2) (k := 21) (v := ?_) rfl rfl (by kernel_rfl) (by kernel_rfl) (by kernel_rfl) (fun _ _ _ h => h) (Or.inl ⟨by rfl, ?_⟩) hHeld ?_
   rotate_left
   ·(intro w hSw; obtain ⟨s0, s1, s2, s3⟩ := hSw; go_simp; try with_reducible rfl)
   simp only [Act.put, List.setIfInBounds_toArray, List.set_cons_zero, List.set_cons_succ]
   refine rh_take (i := 3) (k := 22) (v := ?_) rfl rfl (by kernel_rfl) (by kernel_rfl) (by kernel_rfl) (fun _ _ _ h => h) (Or.inl ⟨by rfl, ?_⟩) hHeld ?_
   rotate_left
   ·(intro w hSw; obtain ⟨s0, s1, s2, s3⟩ := hSw; go_simp; try with_reducible rfl)
   simp only [Act.put, List.setIfInBounds_toArray, List.set_cons_zero, List.set_cons_succ]
   refine rh_take (i := 4) (k := 23) (v := ?_) rfl rfl (by kernel_rfl) (by kernel_rfl) (by kernel_rfl) (fun _ _ _ h => h) (Or.inl ⟨by rfl, ?_⟩) hHeld ?_
   rotate_left
   ·(intro w hSw; obtain ⟨s0, s1, s2, s3⟩ := hSw; go_simp; try with_reducible rfl)
   simp only [Act.put, List.setIfInBounds_toArray, List.set_cons_zero, List.set_cons_succ]
   refine rh_take (i := 5) (k := 24) (v := ?_) rfl rfl (by kernel_rfl) (by kernel_rfl) (by kernel_rfl) (fun _ _ _ h => h) (Or.inl ⟨by rfl, ?_⟩) hHeld ?_
   rotate_left
   ·(intro w hSw; obtain ⟨s0, s1, s2, s3⟩ := hSw; go_simp; try with_reducible rfl)
   simp only [Act.put, List.setIfInBounds_toArray, List.set_cons_zero, List.set_cons_succ]
   refine rh_take (i := 6) (k := 25) (v := ?_) rfl rfl (by kernel_rfl) (by kernel_rfl) (by kernel_rfl) (fun _ _ _ h => h) (Or.inl ⟨by rfl, ?_⟩) hHeld ?_
   rotate_left
   ·(intro w hSw; obtain ⟨s0, s1, s2, s3⟩ := hSw; go_simp; try with_reducible rfl)
   simp only [Act.put, List.setIfInBounds_toArray, List.set_cons_zero, List.set_cons_succ]
   refine rh_take (i := 7) (k := 26) (v := ?_) rfl rfl (by kernel_rfl) (by kernel_rfl) (by kernel_rfl) (fun _ _ _ h => h) (Or.inl ⟨by rfl, ?_⟩) hHeld ?_
   rotate_left
   ·(intro w hSw; obtain ⟨s0, s1, s2, s3⟩ := hSw; go_simp; try with_reducible rfl)
   simp only [Act.put, List.setIfInBounds_toArray, List.set_cons_zero, List.set_cons_succ]
   refine rh_take (i := 8) (k := 27) (v := ?_) rfl rfl (by kernel_rfl) (by kernel_rfl) (by kernel_rfl) (fun _ _ _ h => h) (Or.inl ⟨by rfl, ?_⟩) hHeld ?_
   rotate_left
   ·(intro w hSw; obtain ⟨s0, s1, s2, s3⟩ := hSw; go_simp; try with_reducible rfl)
   simp only [Act.put, List.setIfInBounds_toArray, List.set_cons_zero, List.set_cons_succ]
   refine rh_take (i := 9) (k := 10) (v := ?_) rfl rfl (by kernel_rfl) (by kernel_rfl) (by kernel_rfl) (fun _ _ _ h => h) (Or.inl ⟨by rfl, ?_⟩) hHeld ?_
   rotate_left
   ·(intro w hSw; obtain ⟨s0, s1, s2, s3⟩ := hSw; go_simp; try with_reducible rfl)
   simp only [Act.put, List.setIfInBounds_toArray, List.set_cons_zero, List.set_cons_succ]
   refine wpAnyH_done (by kernel_rfl) ?_ _
   clear hHeld x2 x4 ca hz
   generalize w3.drew = w4 at *
   have x0 := cellOf K1.out 0
   simp at x0
   have hz1 : w.heap.size + 1 < w4.heap.size := by omega
   go_wp2_with (go_at_call 37; refine hold_ ?_)
   intro _
   refine (HF.out _).mono ?_
   rintro e w5 ⟨rfl, hbw⟩
   have K0' := Lib.hid ((hbw.block w.heap.size (by omega)).trans K0.out)
   have K1' := Lib.hid ((hbw.block (w.heap.size + 1) (by omega)).trans K1.out)
   have K2' := Lib.hid ((hbw.block (w.heap.size + 2) (by omega)).trans K2.out)
   have HB' := Lib.hid (belowS hbw HB.out)
   have hz : w.heap.size + 3 ≤ w5.heap.size := Nat.le_trans hzd hbw.size
   have HM' := Lib.hid (HM.out.below HB'.out)
   clear hbw x0 K0 K1 K2 HB hzd hz1
   go_wp2_with (go_at_call 35; refine hold_ ?_)
   intro _
   refine (Mm.Load_at HM'.out at_ k v _ _ rfl rfl HV.out hat2 hk).mono ?_
   rintro e _ ⟨rfl, rfl⟩
   have x1 := cellOf K1'.out 1
   simp at x1
   have hz1 : w.heap.size + 1 < w5.heap.size := by omega
   go_wp2_with (go_at_call 72; refine hold_ ?_)
   intro _
   refine (HSG.out _).mono ?_
   rintro e w7 ⟨rfl, hbw⟩
   have K0 := Lib.hid ((hbw.block w.heap.size (by omega)).trans K0'.out)
   have K1 := Lib.hid ((hbw.block (w.heap.size + 1) (by omega)).trans K1'.out)
   have K2 := Lib.hid ((hbw.block (w.heap.size + 2) (by omega)).trans K2'.out)
   have HB := Lib.hid (belowS hbw HB'.out)
   have hz7 : w.heap.size + 3 ≤ w7.heap.size := Nat.le_trans hz hbw.size
   clear hbw K0' K1' K2' HB' hz x1 hz1 HM' HSG
   have K0' := K0
   have K1' := K1
   have K2' := K2
   have HB' := HB
   have hz := hz7
   clear K0 K1 K2 HB hz7
   generalize w7 = w5 at *
   have x1 := cellOf K1'.out 1
   simp at x1
   have hz1 : w.heap.size + 1 < w5.heap.size := by omega
   go_wp2_with (first | refine ldC rfl _ rfl _ rfl _ (0, 0) K0'.out hl ?_ | (go_at_call 23; refine hold_ ?_))
   intro _
   refine (HS.out _).mono ?_
   rintro e w6 ⟨rfl, hbw⟩
   have hk0' := (hbw.block w.heap.size (by omega)).trans K0'.out
   have K2c := Lib.hid ((setRow_other w6 w.heap.size (w.heap.size + 2) (cv d) (by omega)).trans ((hbw.block (w.heap.size + 2) (by omega)).trans K2'.out))
   have HB := Lib.hid (belowS hbw HB'.out)
   have hz6 : w.heap.size + 3 ≤ w6.heap.size := Nat.le_trans hz hbw.size
   have K0c := Lib.hid (setRow_heap w6 w.heap.size _ (cv d) _ _ hk0')
   have K0 := Lib.hid hk0'
   have HG := Lib.hid (grown_setRow (grownB HB.out (some bl)) (Nat.le_refl _) (cv d))
   have HM2 := Lib.hid (mem_setRow (HM.out.below HB.out) (g := w.heap.size) (by omega) (by omega) (cv d))
   have hzs : w.heap.size < (w6.setRow w.heap.size (cv d)).heap.size := by
    have : (w6.setRow w.heap.size (cv d)).heap.size = w6.heap.size := by simp [World.setRow]
    omega
   clear hbw K0' K1' K2' HB' hz x1 HS hk0' hz1
   have hf0 : World.frozen? (w6.setRow w.heap.size (cv d)) ⟨w.heap.size, 32, none⟩ = false := frozen_of_row _ _ _ _ _ K0c.out
   have hcl := cellC K0c.out hld 32 (by omega)
   have hst := stRow K0c.out 32 ((reg d 32 + 4) % 4294967296)
   have hl2 : (d.set 32 ((reg d 32 + 4) % 4294967296)).length = 33 := by rw [List.length_set]; exact hld
   have K0q := Lib.hid (setRow_heap _ w.heap.size _ (cv (d.set 32 ((reg d 32 + 4) % 4294967296))) _ _ K0c.out)
   have K2q := Lib.hid ((setRow_other _ w.heap.size (w.heap.size + 2) (cv (d.set 32 ((reg d 32 + 4) % 4294967296))) (by omega)).trans K2c.out)
   go_wp2_with (first | refine stC rfl _ _ rfl _ _ rfl rfl c K0.out hld hl ?_ | refine ldC rfl _ rfl _ rfl _ (0, 0) K0q.out hl2 ?_ | refine stC rfl _ _ rfl _ _ rfl rfl zs K2q.out hl2 rfl ?_)
   refine retC2 rfl rfl (setRow_heap _ _ _ _ _ _ K2q.out) hl2 rfl rfl ⟨rfl, _, ?_, mem_setRow (mem_setRow HM2.out (by omega) (by omega) _) (by omega) (by omega) _, grown_setRow (grown_setRow HG.out (by omega) _) (by omega) _⟩
   omega
end Go.Proofs.Ytononmcodecmaaa.Cp
