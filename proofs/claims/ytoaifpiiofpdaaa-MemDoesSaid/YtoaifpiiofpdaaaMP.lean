import Derived.Test.YtoaifpiiofpdaaaMO
import Derived.WalkKit
import Derived.KernelRfl
import Derived.Below
import Derived.Outline
import Derived.LoopTactic
import Derived.Maps.Own
import Derived.Maps.OwnOps
import Derived.Maps.OwnSet
import Derived.Maps.Views
import Derived.Maps.AppendAt
import Derived.Laws.BitsLemmas
import Derived.Laws.BitsAllLaws
import Derived.Deep.LoopGhost
import Derived.Lib.Hide
import Derived.Deep.QuietTactic
import Derived.BigQuiet
import Derived.Deep.Draws
import Derived.Laws.StructEq
import Derived.Deep.Slices
import Derived.Deep.Fields
import Derived.ChangeSame
import Derived.Deep.CutBlock
import Derived.Deep.DeepCutAuto
import Derived.Deep.RegionHeld3
import Derived.StillTailTactics
import Derived.WalkSmall
import Derived.RangeFuncBox
import Derived.OwnWalk
import Derived.Laws.OwnMore
import Derived.Laws.BytesArg
import Derived.Laws.MakeOwn
namespace Go.Proofs.Ytoaifpiiofpdaaa.Mm
open Go.RowKit Go.Maps Go.Proofs
set_option linter.unusedVariables false
set_option linter.unusedSimpArgs false
/-- The round's own copy of an Op, in block r. -/
def OpB (w : World) (r : Nat) (o : OpV) : Prop := w.heap[r]? = some (.cells #[.int .i64 o.kind, .int .i64 o.n, .int .u32 (o.addr : Int), .int .u32 (o.v : Int), .string o.s] 40 (0, 0))
theorem OpB.cells {w : World} {r : Nat} {o : OpV} (h : OpB w r o) : w.cell? ⟨r, 0, none⟩ = some (.int .i64 o.kind) ∧ w.cell? ⟨r, 1, none⟩ = some (.int .i64 o.n) ∧ w.cell? ⟨r, 2, none⟩ = some (.int .u32 (o.addr : Int)) ∧ w.cell? ⟨r, 3, none⟩ = some (.int .u32 (o.v : Int)) ∧ w.cell? ⟨r, 4, none⟩ = some (.string o.s) := by
  unfold OpB at h
  simp [World.cell?, h]
theorem OpB.below {w w' : World} {r : Nat} {o : OpV} (h : OpB w r o) (hb : Below w.heap.size w w') : OpB w' r o := (hb.block r (Array.getElem?_eq_some_iff.1 h).1).trans h
theorem OpB.other {w w' : World} {p b n r : Nat} {f : Nat → Nat} {o : OpV} (h : OpB w r o) (hm : MemAt w p b n f) (hg : w.grownBy w' (some b)) : OpB w' r o := by
  refine (hg.block r (Array.getElem?_eq_some_iff.1 h).1 (fun e => ?_)).trans h
  obtain ⟨⟨D, ho, _⟩, _⟩ := hm.map
  obtain ⟨es, clock, hb, _⟩ := ho
  have e2 := Option.some.inj e
  unfold OpB at h
  rw [e2, hb] at h
  simp at h
theorem OpB.new (w : World) (o : OpV) : OpB (w.alloc (.cells #[.int .i64 o.kind, .int .i64 o.n, .int .u32 (o.addr : Int), .int .u32 (o.v : Int), .string o.s] 40)) w.heap.size o := World.alloc_heap_new w _
theorem BytesZ {w : World} {p b n : Nat} {f : Nat → Nat} (h : MemAt w p b n f) (a : Nat) (K : Int) (ha : a < 4294967296) (hK : K < 10000000) :
    Calls Try.prog 15 #[.pointer (some ⟨p, 0, none⟩), .int .u32 (a : Int), .int .i64 K] w fun e w' => e = .returned (.string (strB f a K.toNat)) ∧ Below w.heap.size w w' := by
  by_cases h1 : K < 1
  · refine (Bytes_neg _ a K w h1).mono ?_
    rintro e w' ⟨rfl, rfl⟩
    refine ⟨?_, Below.refl _ _⟩
    rw [show K.toNat = 0 by omega]
    rfl
  · obtain ⟨k, rfl⟩ := Int.eq_ofNat_of_zero_le (show 0 ≤ K by omega)
    exact Bytes_calls p b n f a k w h ha (by omega) (by omega)
theorem cv_set (l : List (Nat × Nat)) (j : Nat) (y : Nat × Nat) (h : l[j]? = some y) : (cv l).set (j * 2 + 1) (.int .u8 0) = cv (l.set j (y.1, 0)) := by
  induction l generalizing j with
  | nil => simp at h
  | cons z l ih =>
    cases j with
    | zero =>
      simp at h
      subst h
      simp [cv]
    | succ j =>
      have e : (j + 1) * 2 + 1 = (j * 2 + 1) + 2 := by omega
      rw [e]
      have := ih j (by simpa using h)
      simp only [cv, List.flatMap_cons, List.cons_append, List.nil_append, List.set_cons_succ] at this ⊢
      rw [this]
/-- A store into the memory, and one into the reference's. -/
theorem Two.memStep {W w w' : World} {p b q n n' : Nat} {f f' : Nat → Nat} {l : List (Nat × Nat)} (h : Two W w p b q n f l) (hm : MemAt w' p b n' f') (hg : w.grownBy w' (some b)) : RefM w' q n f l ∧ Below W.heap.size W w' :=
  ⟨h.ref.other h.mem hg, h.bel.grown hg h.bel.size (fun k hk => by cases hk; exact h.hb)⟩
set_option maxHeartbeats 16000000 in
set_option maxRecDepth 100000 in
theorem walk_MemDoes (oa : Option Addr) (L cap : Nat) (O : Nat → OpV) (W : World) (hL : L ≤ 9223372036854775807) (hS : Script W oa L O) :
    Calls Try.prog 7 #[.slice oa L cap] W fun e w' => e = .returned (.bool true) ∧ Below W.heap.size W w' := by
  have HS := Lib.hid hS
  clear hS
  go_enter Try.func7, Try.ntmps7
  go_wp2_with (go_at_call 9; refine hold_ ?_)
  intro _
  refine (New_named (Below.refl W.heap.size W) (Nat.le_refl _)).mono ?_
  rintro e w1 ⟨p, b, rfl, h1, k1, l1, g1, b1⟩
  have H1 := Lib.hid h1; have B1 := Lib.hid b1; have K1 := Lib.hid k1; have L1 := Lib.hid l1
  clear h1 g1 b1 k1 l1
  go_wp2_with (go_at_call 17; refine hold_ ?_)
  intro _
  refine (rNew_calls w1).mono ?_
  obtain ⟨q, hq⟩ : ∃ q, q = w1.heap.size := ⟨_, rfl⟩
  rw [← hq]
  rintro e w2 ⟨rfl, h2, g2⟩
  have hqW : W.heap.size ≤ q := by rw [hq]; exact B1.out.size
  have H2 : Hid (Two W w2 p b q 0 (fun _ => 0) []) := Lib.hid ⟨H1.out.kept g2 (by simp) (by simp), h2, L1.out, hqW, B1.out.grown g2 B1.out.size (fun k hk => by cases hk)⟩
  clear h2 g2 hq hqW H1 B1 K1 L1
  go_wp2
  go_loopw [3, 5] (fun s3 s5 wr => ∃ (i n p b : Nat) (f : Nat → Nat) (l : List (Nat × Nat)), i ≤ L ∧ i ≤ 60 ∧ s5 = .int .i64 i ∧ s3 = .pointer (some ⟨p, 0, none⟩) ∧ n ≤ 34 * i ∧ Two W wr p b q n f l) (fun _ s5 _ => 60 - (intOf s5).toNat)
  case atStart => exact ⟨0, 0, p, b, _, _, Nat.zero_le _, Nat.zero_le _, rfl, rfl, Nat.le_refl _, H2.out⟩
  case round =>
    clear H2
    obtain ⟨i, n, p, b, f, l, hi, hi60, rfl, rfl, hn, hT⟩ := hrel
    have HT := Lib.hid hT
    clear hT
    by_cases hlt : i < L ∧ i < 60
    · obtain ⟨h1, h2⟩ := hlt
      obtain ⟨g, x, rfl, hab, hO⟩ := HS.out i h1
      have hO2 := hO.below hab HT.out.bel
      generalize O i = o at *
      obtain ⟨c0, c1, c2, c3, c4, hn1, ha1, hv1, hs1⟩ := hO2
      clear hO hab
      go_upto_region 8 with (fail)
      go_upto_block 2 with (fail)
      have HT3 := Lib.hid (HT.out.below (below_of_alloc wr (.cells #[.int .i64 o.kind, .int .i64 o.n, .int .u32 (o.addr : Int), .int .u32 (o.v : Int), .string o.s] 40)))
      have HB3 := Lib.hid (OpB.new wr o)
      clear HT c0 c1 c2 c3 c4
      generalize wr.alloc _ = w3 at *
      generalize wr.heap.size = r at *
      go_cut [3] (fun s3 wc => ∃ (n' p' b' : Nat) (f' : Nat → Nat) (l' : List (Nat × Nat)), s3 = .pointer (some ⟨p', 0, none⟩) ∧ Hid (n' ≤ 34 * i + 34) ∧ Hid (Two W wc p' b' q n' f' l'))
      case first =>
        rcases o with ⟨kd, kn, A, V, S⟩
        obtain ⟨d0, d1, d2, d3, d4⟩ := HB3.out.cells
        simp only at d0 d1 d2 d3 d4 hn1 ha1 hv1 hs1
        by_cases hk0 : kd = 0
        · subst hk0
          by_cases hk : kn = 1 ∨ kn = 2 ∨ kn = 4
          · obtain ⟨k, rfl, hkk⟩ : ∃ k : Nat, kn = (k : Int) ∧ (k = 1 ∨ k = 2 ∨ k = 4) := ⟨kn.toNat, by omega, by omega⟩
            clear hk
            go_wp2_with (go_at_call 16; refine hold_ ?_)
            intro _
            refine (Load_at HT3.out.mem A k (ld f A k) _ _ rfl rfl rfl ha1 hkk).mono ?_
            rintro e w' ⟨rfl, rfl⟩
            go_wp2_with (go_at_call 18; refine hold_ ?_)
            intro _
            refine (rLoad_calls q n f l A k _ HT3.out.ref (by omega) ha1 hkk).mono ?_
            rintro e w' ⟨rfl, rfl⟩
            go_wp2
            go_meet
            case rel => exact ⟨n, _, _, _, _, rfl, Lib.hid (by omega), HT3⟩
          · go_wp2_with (go_at_call 16; refine hold_ ?_)
            intro _
            refine (Load_not _ A kn _ hk).mono ?_
            rintro e w' ⟨rfl, rfl⟩
            go_wp2_with (go_at_call 18; refine hold_ ?_)
            intro _
            refine (rLoad_not _ A kn _ hk).mono ?_
            rintro e w' ⟨rfl, rfl⟩
            go_wp2
            go_meet
            case rel => exact ⟨n, _, _, _, _, rfl, Lib.hid (by omega), HT3⟩
        by_cases hk1 : kd = 1
        · subst hk1
          by_cases hk : kn = 1 ∨ kn = 2 ∨ kn = 4
          · obtain ⟨k, rfl, hkk⟩ : ∃ k : Nat, kn = (k : Int) ∧ (k = 1 ∨ k = 2 ∨ k = 4) := ⟨kn.toNat, by omega, by omega⟩
            clear hk
            go_wp2_with (go_at_call 10; refine hold_ ?_)
            intro _
            refine (Store_at HT3.out.mem A k V _ _ _ rfl rfl rfl (by omega) ha1 hv1 hkk).mono ?_
            rintro e w4 ⟨rfl, h4, g4⟩
            obtain ⟨r4, b4⟩ := HT3.out.memStep h4 g4
            have H4 := Lib.hid h4; have R4 := Lib.hid r4; have B4 := Lib.hid b4
            have O4 := Lib.hid (HB3.out.other HT3.out.mem g4)
            clear h4 r4 b4 g4 d0 d1 d2 d3 d4
            obtain ⟨d0, d1, d2, d3, d4⟩ := O4.out.cells
            simp only at d0 d1 d2 d3 d4
            go_wp2_with (go_at_call 19; refine hold_ ?_)
            intro _
            refine (rStore_calls q n f l A k V _ R4.out (by omega) ha1 hv1 hkk).mono ?_
            rintro e w5 ⟨rfl, ⟨l', r5⟩, g5⟩
            have T5 : Hid (Two W w5 p b q (n + k) _ l') := Lib.hid ⟨H4.out.byRef R4.out g5, r5, HT3.out.hb, HT3.out.hq, B4.out.grown g5 B4.out.size (fun k hk => by cases hk; exact HT3.out.hq)⟩
            clear r5 g5
            go_wp2
            go_meet
            case rel => exact ⟨n + k, _, _, _, _, rfl, Lib.hid (by omega), T5⟩
          · go_wp2_with (go_at_call 10; refine hold_ ?_)
            intro _
            refine (Store_not _ A kn V _ hk).mono ?_
            rintro e w' ⟨rfl, rfl⟩
            go_wp2_with (go_at_call 19; refine hold_ ?_)
            intro _
            refine (rStore_not _ A kn V _ hk).mono ?_
            rintro e w' ⟨rfl, rfl⟩
            go_wp2
            go_meet
            case rel => exact ⟨n, _, _, _, _, rfl, Lib.hid (by omega), HT3⟩
        by_cases hk2 : kd = 2
        · subst hk2
          obtain ⟨m, hm⟩ : ∃ m : Nat, m = min S.size 30 := ⟨_, rfl⟩
          have hmi : min (S.size : Int) 30 = (m : Int) := by omega
          have hm30 : m ≤ 30 := by omega
          have hmS : m ≤ S.size := by omega
          clear hm
          go_wp2
          have d2d : World.cell? { heap := w3.heap, tape := w3.tape, drawn := w3.drawn + 1, os := w3.os, output := w3.output } _ = _ := d2
          have d4d : World.cell? { heap := w3.heap, tape := w3.tape, drawn := w3.drawn + 1, os := w3.os, output := w3.output } _ = _ := d4
          go_still_tail 10, (by kernel_rfl)
          change wpList _ _ _ _ _ w3.drew
          clear d2d d4d
          have hd : Below w3.heap.size w3 w3.drew := (Below.refl _ w3).drew
          have HT4 := Lib.hid (HT3.out.below hd); have HB4 := Lib.hid (HB3.out.below hd)
          clear HT3 HB3 d0 d1 d2 d3 d4 hd
          generalize w3.drew = w4 at *
          go_wp2_with (go_at_call 14; refine hold_ ?_)
          intro _
          obtain ⟨Q, hQ⟩ : ∃ Q, Q = S.extract 0 m := ⟨_, rfl⟩
          have hQl : Q.size ≤ 30 := by rw [hQ, ByteArray.size_extract]; omega
          have HQ := Lib.hid hQ
          rw [← hQ]
          clear hQ
          refine (Put_at HT4.out.mem A _ Q rfl (by omega) ha1).mono ?_
          rintro e w5 ⟨rfl, h5, g5⟩
          obtain ⟨r5, b5⟩ := HT4.out.memStep h5 g5
          have H5 := Lib.hid h5; have R5 := Lib.hid r5; have B5 := Lib.hid b5
          have O5 := Lib.hid (HB4.out.other HT4.out.mem g5)
          clear h5 r5 b5 g5
          obtain ⟨d0, d1, d2, d3, d4⟩ := O5.out.cells
          simp only at d0 d1 d2 d3 d4
          go_wp2
          have d2d : World.cell? { heap := w5.heap, tape := w5.tape, drawn := w5.drawn + 1, os := w5.os, output := w5.output } _ = _ := d2
          have d4d : World.cell? { heap := w5.heap, tape := w5.tape, drawn := w5.drawn + 1, os := w5.os, output := w5.output } _ = _ := d4
          go_still_tail 10, (by kernel_rfl)
          change wpList _ _ _ _ _ w5.drew
          clear d2d d4d
          have hd : Below w5.heap.size w5 w5.drew := (Below.refl _ w5).drew
          have H6 := Lib.hid (H5.out.below hd); have R6 := Lib.hid (R5.out.below hd); have B6 := Lib.hid B5.out.drew
          clear H5 R5 B5 O5 d0 d1 d2 d3 d4 hd
          generalize w5.drew = w6 at *
          go_wp2_with (go_at_call 20; refine hold_ ?_)
          intro _
          rw [← HQ.out]
          refine (rPut_calls q n f l A Q _ R6.out (by omega) ha1).mono ?_
          rintro e w7 ⟨rfl, ⟨l', r7⟩, g7⟩
          have T7 : Hid (Two W w7 p b q (n + Q.size) _ l') := Lib.hid ⟨H6.out.byRef R6.out g7, r7, HT4.out.hb, HT4.out.hq, B6.out.grown g7 B6.out.size (fun k hk => by cases hk; exact HT4.out.hq)⟩
          clear r7 g7
          go_wp2
          go_meet
          case rel => exact ⟨n + Q.size, _, _, _, _, rfl, Lib.hid (by omega), T7⟩
        by_cases hk3 : kd = 3
        · subst hk3
          obtain ⟨cut, hcutK⟩ : ∃ cut : Int, min kn 30 = cut := ⟨_, rfl⟩
          have hK30 : cut ≤ 30 := by omega
          go_wp2
          refine wp_region_held_drew (S := fun w' => w'.cell? ⟨r, 1, none⟩ = some (.int .i64 kn) ∧ w'.cell? ⟨r, 2, none⟩ = some (.int .u32 (A : Int))) (by kernel_rfl) ⟨d1, d2⟩ (fun hHeld => ?_)
          refine rh_take (i := 0) (k := 109) (v := ?_) rfl rfl (by kernel_rfl) (by kernel_rfl) (by kernel_rfl) (fun _ _ _ h => h) (Or.inl ⟨by rfl, ?_⟩) hHeld ?_
          rotate_left
          · (intro w hSw; clear hSw; go_simp; try with_reducible rfl)
          simp only [Act.put, List.setIfInBounds_toArray, List.set_cons_zero, List.set_cons_succ]
          refine rh_take (i := 1) (k := 110) (v := ?_) rfl rfl (by kernel_rfl) (by kernel_rfl) (by kernel_rfl) (fun _ _ _ h => h) (Or.inl ⟨by rfl, ?_⟩) hHeld ?_
          rotate_left
          · (intro w hSw; clear hSw; go_simp; try with_reducible rfl)
          simp only [Act.put, List.setIfInBounds_toArray, List.set_cons_zero, List.set_cons_succ]
          refine rh_take (i := 2) (k := 111) (v := ?_) rfl rfl (by kernel_rfl) (by kernel_rfl) (by kernel_rfl) (fun _ _ _ h => h) (Or.inl ⟨by rfl, ?_⟩) hHeld ?_
          rotate_left
          · (intro w hSw; obtain ⟨s1, s2⟩ := hSw; go_simp; try with_reducible rfl)
          simp only [Act.put, List.setIfInBounds_toArray, List.set_cons_zero, List.set_cons_succ]
          refine rh_take (i := 3) (k := 112) (v := ?_) rfl rfl (by kernel_rfl) (by kernel_rfl) (by kernel_rfl) (fun _ _ _ h => h) (Or.inl ⟨by rfl, ?_⟩) hHeld ?_
          rotate_left
          · (intro w hSw; clear hSw; go_simp; try with_reducible rfl)
          simp only [Act.put, List.setIfInBounds_toArray, List.set_cons_zero, List.set_cons_succ]
          refine rh_take (i := 4) (k := 113) (v := ?_) rfl rfl (by kernel_rfl) (by kernel_rfl) (by kernel_rfl) (fun _ _ _ h => h) (Or.inl ⟨by rfl, ?_⟩) hHeld ?_
          rotate_left
          · (intro w hSw; obtain ⟨s1, s2⟩ := hSw; go_simp; try with_reducible rfl)
          simp only [Act.put, List.setIfInBounds_toArray, List.set_cons_zero, List.set_cons_succ]
          refine rh_take (i := 5) (k := 114) (v := ?_) rfl rfl (by kernel_rfl) (by kernel_rfl) (by kernel_rfl) (fun _ _ _ h => h) (Or.inl ⟨by rfl, ?_⟩) hHeld ?_
          rotate_left
          · (intro w hSw; clear hSw; go_simp; try with_reducible rfl)
          simp only [Act.put, List.setIfInBounds_toArray, List.set_cons_zero, List.set_cons_succ]
          refine rh_take (i := 7) (k := 116) (v := ?_) rfl rfl (by kernel_rfl) (by kernel_rfl) (by kernel_rfl) (fun _ _ _ h => h) (Or.inl ⟨by rfl, ?_⟩) hHeld ?_
          rotate_left
          · (intro w hSw; clear hSw; go_simp; try with_reducible rfl)
          simp only [Act.put, List.setIfInBounds_toArray, List.set_cons_zero, List.set_cons_succ]
          refine rh_take (i := 8) (k := 117) (v := ?_) rfl rfl (by kernel_rfl) (by kernel_rfl) (by kernel_rfl) (fun _ _ _ h => h) (Or.inl ⟨by rfl, ?_⟩) hHeld ?_
          rotate_left
          · (intro w hSw; clear hSw; go_simp; try with_reducible rfl)
          simp only [Act.put, List.setIfInBounds_toArray, List.set_cons_zero, List.set_cons_succ]
          refine rh_take (i := 9) (k := 118) (v := ?_) rfl rfl (by kernel_rfl) (by kernel_rfl) (by kernel_rfl) (fun _ _ _ h => h) (Or.inl ⟨by rfl, ?_⟩) hHeld ?_
          rotate_left
          · (intro w hSw; obtain ⟨s1, s2⟩ := hSw; go_simp; try with_reducible rfl)
          simp only [Act.put, List.setIfInBounds_toArray, List.set_cons_zero, List.set_cons_succ]
          refine rh_take (i := 10) (k := 119) (v := ?_) rfl rfl (by kernel_rfl) (by kernel_rfl) (by kernel_rfl) (fun _ _ _ h => h) (Or.inl ⟨by rfl, ?_⟩) hHeld ?_
          rotate_left
          · (intro w hSw; clear hSw; go_simp; try with_reducible rfl)
          simp only [Act.put, List.setIfInBounds_toArray, List.set_cons_zero, List.set_cons_succ]
          refine rh_take (i := 11) (k := 120) (v := ?_) rfl rfl (by kernel_rfl) (by kernel_rfl) (by kernel_rfl) (fun _ _ _ h => h) (Or.inl ⟨by rfl, ?_⟩) hHeld ?_
          rotate_left
          · (intro w hSw; obtain ⟨s1, s2⟩ := hSw; go_simp; try with_reducible rfl)
          simp only [Act.put, List.setIfInBounds_toArray, List.set_cons_zero, List.set_cons_succ]
          refine rh_take (i := 12) (k := 121) (v := ?_) rfl rfl (by kernel_rfl) (by kernel_rfl) (by kernel_rfl) (fun _ _ _ h => h) (Or.inl ⟨by rfl, ?_⟩) hHeld ?_
          rotate_left
          · (intro w hSw; clear hSw; go_simp; try with_reducible rfl)
          simp only [Act.put, List.setIfInBounds_toArray, List.set_cons_zero, List.set_cons_succ]
          have HT4 : Hid (Two W w3.drew p b q n f l) := Lib.hid (HT3.out.below (Below.refl _ _).drew)
          have HB4 : Hid (OpB w3.drew r _) := Lib.hid (HB3.out.below (Below.refl _ _).drew)
          refine wpAnyH_ready (rs := [6]) (by kernel_rfl) (by simp) ?_
          refine AllReadyH.cons (i := 6) rfl (fun K hK => ?_) AllReadyH.nil
          go_simp
          refine (BytesZ HT4.out.mem A cut ha1 (by omega)).mono ?_
          rintro e w4 ⟨rfl, hb4⟩
          have HT5 := Lib.hid (HT4.out.below hb4)
          obtain ⟨f0, f1, f2, f3, f4⟩ := (HB4.out.below hb4).cells
          go_wp2_with fail
          refine hK.out _ _ ⟨f1, f2⟩ (fun hHeld => ?_)
          clear hK K
          try simp only [Act.put, List.setIfInBounds_toArray, List.set_cons_zero, List.set_cons_succ]
          refine wpAnyH_ready (rs := [13]) (by kernel_rfl) (by simp) ?_
          refine AllReadyH.cons (i := 13) rfl (fun K hK => ?_) AllReadyH.nil
          go_simp
          refine (rBytes_calls q n f l A cut _ HT5.out.ref (by omega) ha1 (by omega)).mono ?_
          rintro e w5 ⟨rfl, hb5⟩
          have HT6 := Lib.hid (HT5.out.below hb5)
          have hS5 := And.intro ((hb5.cell (p := ⟨r, 1, none⟩) (World.block_lt_of_cell? w4 ⟨r, 1, none⟩ f1)).trans f1) ((hb5.cell (p := ⟨r, 2, none⟩) (World.block_lt_of_cell? w4 ⟨r, 2, none⟩ f2)).trans f2)
          go_wp2_with fail
          refine hK.out _ _ hS5 (fun hHeld => ?_)
          clear hK K
          try simp only [Act.put, List.setIfInBounds_toArray, List.set_cons_zero, List.set_cons_succ]
          refine rh_take (i := 14) (k := 123) (v := ?_) rfl rfl (by kernel_rfl) (by kernel_rfl) (by kernel_rfl) (fun _ _ _ h => h) (Or.inl ⟨by rfl, ?_⟩) hHeld ?_
          rotate_left
          · (intro w hSw; clear hSw; go_simp; try with_reducible rfl)
          simp only [Act.put, List.setIfInBounds_toArray, List.set_cons_zero, List.set_cons_succ]
          refine wpAnyH_done (by kernel_rfl) ?_ _
          clear hS5 f0 f1 f2 f3 f4 hb4 hb5
          go_wp2
          go_meet
          case rel => exact ⟨n, _, _, _, _, rfl, Lib.hid (by omega), HT6⟩
        by_cases hk4 : kd = 4
        · subst hk4
          go_wp2_with (go_at_call 22; refine hold_ ?_)
          intro _
          have hbl := HT3.out.mem.map.lt
          have hpl := HT3.out.mem.lt
          refine (Copy_named HT3.out.mem (Below.refl w3.heap.size w3) (Nat.le_refl _)).mono ?_
          rintro e w4 ⟨p2, b2, rfl, h4, m4, k4, l4, b4⟩
          have hp2 : Hid (p2 ≠ b) := Lib.hid (by omega)
          have hb2 : Hid (b2 ≠ b) := Lib.hid (by omega)
          have T4 := Lib.hid (HT3.out.below b4)
          have H4 := Lib.hid h4
          have O4 := Lib.hid (HB3.out.below b4)
          have hW2 : Hid (W.heap.size ≤ b2) := Lib.hid (Nat.le_trans HT3.out.bel.size l4)
          clear h4 m4 k4 l4 b4 hbl hpl d0 d1 d2 d3 d4
          obtain ⟨d0, d1, d2, d3, d4⟩ := O4.out.cells
          simp only at d0 d1 d2 d3 d4
          go_wp2_with (go_at_call 14; refine hold_ ?_)
          intro _
          obtain ⟨Q, hQ⟩ : ∃ Q, Q = (⟨#[108, 101, 102, 116]⟩ : ByteArray) := ⟨_, rfl⟩
          have hQl : Q.size = 4 := by rw [hQ]; rfl
          rw [← hQ]
          clear hQ
          refine (Put_at T4.out.mem A _ Q rfl (by omega) ha1).mono ?_
          rintro e w5 ⟨rfl, h5, g5⟩
          obtain ⟨r5, b5⟩ := T4.out.memStep h5 g5
          have T5 : Hid (Two W w5 p2 b2 q n f l) := Lib.hid ⟨H4.out.other g5 hp2.out hb2.out, r5, hW2.out, HT3.out.hq, b5⟩
          clear h5 r5 b5 g5
          go_wp2
          go_meet
          case rel => exact ⟨n, _, _, _, _, rfl, Lib.hid (by omega), T5⟩
        have e0 : (kd == 0) = false := beq_eq_false_iff_ne.mpr hk0
        have e1 : (kd == 1) = false := beq_eq_false_iff_ne.mpr hk1
        have e2 : (kd == 2) = false := beq_eq_false_iff_ne.mpr hk2
        have e3 : (kd == 3) = false := beq_eq_false_iff_ne.mpr hk3
        have e4 : (kd == 4) = false := beq_eq_false_iff_ne.mpr hk4
        clear hk0 hk1 hk2 hk3 hk4
        go_wp2
        go_meet
        case rel => exact ⟨n, _, _, _, _, rfl, Lib.hid (by omega), HT3⟩
      case rest =>
        obtain ⟨n', p', b', f', l', rfl, HN', HT⟩ := hcut
        clear HT3 HB3
        go_wp2_with (go_at_call 12; refine hold_ ?_)
        intro _
        refine (Cells_calls p' b' n' f' _ HT.out.mem (by have := HN'.out; omega)).mono ?_
        rintro e w4 ⟨v, l2, rfl, hr, hl, ho, hz, hb⟩
        obtain rfl := hr.unique HT.out.ref.rep
        have HT4 := Lib.hid (HT.out.below hb)
        obtain ⟨u, hu, hou⟩ := HT4.out.ref.at_
        have hcu : w4.cell? ⟨q, 0, none⟩ = some u := by simp [World.cell?, hu]
        obtain ⟨oc, capc, rfl, hoc⟩ := own_opt ho
        obtain ⟨N, hN⟩ : ∃ N, N = l2.length := ⟨_, rfl⟩
        have hNl : N ≤ 100000 := by have := HN'.out; omega
        have HO : Hid (OwnC w4 wc.heap.size (.slice oc N capc) l2) := Lib.hid (by rw [hN]; exact ho)
        have HU := Lib.hid hou
        have HLN := Lib.hid hN
        have B4 := Lib.hid hb
        have HOC : Hid (0 < N → ∃ g, oc = some ⟨g, 0, none⟩) := Lib.hid (by rw [hN]; exact hoc)
        rw [← hN]
        clear hr hl ho hz hb hN hou hu hoc
        go_wp2_with (go_at_call 11; refine hold_ ?_)
        intro _
        refine (Same_calls _ _ _ _ _ _ _ HO.out HU.out (by have := HLN.out; omega) (by have := HLN.out; omega)).mono ?_
        rintro e w5 ⟨rfl, nd, hw⟩
        have hq5 : Below w4.heap.size w4 w5 := by rw [hw]; exact below_drewN (Below.refl _ _) nd
        have O5 : Hid (OwnC w5 wc.heap.size (.slice oc N capc) l2) := Lib.hid (HO.out.below hq5)
        have B5 := Lib.hid (B4.out.trans (hq5.mono B4.out.size))
        clear hw hq5 hcu HU HT4
        rw [decide_eq_true rfl]
        go_wp2
        go_loopw [14] (fun s14 wr => ∃ (j : Nat) (lj : List (Nat × Nat)), j ≤ N ∧ s14 = .int .i64 j ∧ N = lj.length ∧ OwnC wr wc.heap.size (.slice oc N capc) lj ∧ Below wc.heap.size wc wr) (fun s14 _ => N - (intOf s14).toNat)
        case atStart => exact ⟨0, l2, Nat.zero_le _, rfl, HLN.out, O5.out, B5.out⟩
        case round =>
          obtain ⟨j, lj, hj, rfl, hlj, hO, hB⟩ := hrel
          have HLJ := Lib.hid hlj; have HOJ := Lib.hid hO; have HBJ := Lib.hid hB
          clear hlj hO hB
          by_cases hlt : j < N
          · obtain ⟨g, rfl⟩ := HOC.out (by omega)
            obtain ⟨y, hy⟩ : ∃ y, lj[j]? = some y := ⟨_, List.getElem?_eq_getElem (by rw [← HLJ.out]; exact hlt)⟩
            obtain ⟨c1, c2⟩ := HOJ.out.cell HLJ.out j y hy
            have HOK : Hid (OwnC wr wc.heap.size (.slice (some ⟨g, 0, none⟩) lj.length capc) lj) := Lib.hid (by have := HOJ.out; rw [HLJ.out] at this; exact this)
            have hf := World.ownsRow.frozenAt HOK.out (j * 2 + 1)
            have HY := Lib.hid hy
            clear hy
            go_wp2
            go_roundw
            case rel =>
              obtain ⟨s1, s2⟩ := World.ownsRow.stored HOK.out (j * 2 + 1) (.int .u8 0)
              rw [cv_set _ _ y HY.out] at s1
              refine ⟨j + 1, lj.set j (y.1, 0), hlt, by go_num, by rw [List.length_set]; exact HLJ.out, by show World.ownsRow _ _ _ _ _ _ _; rw [List.length_set, HLJ.out]; exact s1, HBJ.out.setCell (World.ownsRow.lt HOJ.out g rfl).1 _⟩
            case measure => simp [intOf]; omega
          · obtain rfl : j = N := by omega
            have HT6 := Lib.hid (HT.out.below HBJ.out)
            go_wp2
            go_roundw
            case rel => exact ⟨i + 1, n', p', b', f', l2, h1, by omega, by go_num, rfl, by have := HN'.out; omega, HT6.out⟩
            case measure => simp [intOf]; omega
    · by_cases h1 : i < L
      · obtain rfl : i = 60 := by omega
        go_wp2_with (go_at_call 13; refine hold_ ?_)
        intro _
        refine (fixed_calls _).mono ?_
        rintro e w6 ⟨rfl, hb⟩
        have B6 := Lib.hid (HT.out.bel.trans (hb.mono HT.out.bel.size))
        clear hb
        go_wp2
        go_ret
        exact ⟨by simp, B6.out⟩
      · obtain rfl : i = L := by omega
        have hLL : ¬ ((i : Int) < (i : Int)) := by omega
        go_wp2_with (go_at_call 13; refine hold_ ?_)
        intro _
        refine (fixed_calls _).mono ?_
        rintro e w6 ⟨rfl, hb⟩
        have B6 := Lib.hid (HT.out.bel.trans (hb.mono HT.out.bel.size))
        clear hb
        go_wp2
        go_ret
        exact ⟨by simp, B6.out⟩
end Go.Proofs.Ytoaifpiiofpdaaa.Mm
