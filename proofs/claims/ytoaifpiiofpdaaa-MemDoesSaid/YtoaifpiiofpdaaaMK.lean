import Derived.Test.YtoaifpiiofpdaaaMI
import Derived.WalkKit
import Derived.KernelRfl
import Derived.Below
import Derived.Outline
import Derived.LoopTactic
import Derived.Maps.Own
import Derived.Maps.OwnOps
import Derived.Maps.OwnSet
import Derived.Maps.Views
import Derived.Maps.AppendAt
import Derived.Laws.BitsLemmas
import Derived.Laws.BitsAllLaws
import Derived.Deep.LoopGhost
import Derived.Lib.Hide
import Derived.Deep.QuietTactic
import Derived.BigQuiet
import Derived.Deep.Draws
import Derived.Laws.StructEq
import Derived.Deep.CutBlock
import Derived.Deep.DeepCutAuto
import Derived.Deep.RegionHeld3
import Derived.StillTailTactics
import Derived.WalkSmall
import Derived.RangeFuncBox
import Derived.OwnWalk
import Derived.Laws.OwnMore
import Derived.Laws.BytesArg
import Derived.Laws.MakeOwn
namespace Go.Proofs.Ytoaifpiiofpdaaa.Mm
open Go.RowKit Go.Maps Go.Proofs
set_option linter.unusedVariables false
set_option linter.unusedSimpArgs false
/-! ### MemCells -/
/-- The memory that a row of cells makes. -/
def lfold (l : List (Nat × Nat)) : Nat → Nat := l.foldl (fun g x => upd g x.1 x.2) (fun _ => 0)
theorem lfold_snoc (l : List (Nat × Nat)) (x : Nat × Nat) : lfold (l ++ [x]) = upd (lfold l) x.1 x.2 := by simp [lfold]
theorem snoc_ind {α : Type} {p : List α → Prop} (h0 : p []) (h1 : ∀ l x, p l → p (l ++ [x])) : ∀ l, p l := by
  intro l
  rw [← List.reverse_reverse l]
  induction l.reverse with
  | nil => exact h0
  | cons x r ih => rw [List.reverse_cons]; exact h1 _ _ ih
theorem lfold_none (l : List (Nat × Nat)) (a : Nat) (h : ∀ x ∈ l, x.1 ≠ a) : lfold l a = 0 := by
  revert h
  refine snoc_ind (p := fun l => (∀ x ∈ l, x.1 ≠ a) → lfold l a = 0) (fun _ => rfl) (fun l x ih h => ?_) l
  rw [lfold_snoc]
  unfold upd
  rw [if_neg (fun e => h x (by simp) e.symm)]
  exact ih (fun y hy => h y (by simp [hy]))
theorem lfold_some (l : List (Nat × Nat)) (hp : l.Pairwise (fun x y => x.1 < y.1)) (a c : Nat) (h : (a, c) ∈ l) : lfold l a = c := by
  revert hp h
  refine snoc_ind (p := fun l => l.Pairwise (fun x y => x.1 < y.1) → (a, c) ∈ l → lfold l a = c) (fun _ h => by cases h) (fun l x ih hp h => ?_) l
  rw [lfold_snoc]
  unfold upd
  rw [List.pairwise_append] at hp
  rw [List.mem_append] at h
  rcases h with h | h
  · rw [if_neg (fun e => by have := hp.2.2 _ h x (by simp); simp at this; omega)]
    exact ih hp.1 h
  · simp at h; subst h; simp
theorem lfold_rep {f : Nat → Nat} {l : List (Nat × Nat)} (h : Rep f l) : lfold l = f := by
  funext a
  by_cases h0 : f a = 0
  · rw [h0]
    exact lfold_none l a (fun x hx e => by have := (h.2 x.1 x.2).1 hx; rw [e, h0] at this; exact this.2 this.1)
  · exact lfold_some l h.1 a (f a) ((h.2 a (f a)).2 ⟨rfl, h0⟩)
theorem take_snoc {α : Type} (l : List α) (j : Nat) (x : α) (h : l[j]? = some x) : l.take (j + 1) = l.take j ++ [x] := by
  rw [List.take_add_one, h]; rfl
theorem rh_take {P : Program} {ops : Array Oper} {Q : Exit → Act → World → Prop} {md : Region.Mode} {S : World → Prop} {i k : Nat} {oi : Oper} {v : Value} {fuel : Nat} {listed : Array Bool} {a : Act} {w : World} (hi : ops[i]? = some oi) (hk : oi.dst = some k)
    (hs : Region.noSelect ops = true) (hf : Region.free md ops listed i = true) (hr : (Region.ready md ops listed).contains i = true)
    (hQ : ∀ c a w, Q (.panic c) (a.put (some k) v) w → Q (.panic c) a w) (hy : YieldsIf P ops S oi v a) (hS : S w)
    (h : wpAnyH P md ops Q S fuel (listed.setIfInBounds i true) (a.put (some k) v) w) : wpAnyH P md ops Q S (fuel + 1) listed a w := by
  rw [← hk] at hQ h
  exact wpAnyH_take hi hs hf hr hQ hy hS h
theorem conv_one (c : Nat) (w : World) : (convert 43 9 (.slice (some ⟨w.heap.size, 0, none⟩) 1 1)).run Try.prog (w.alloc (.cells #[.int .u8 (c : Int)] 5)) = .ok (.string (strB (fun _ => c) 0 1)) (w.alloc (.cells #[.int .u8 (c : Int)] 5)) := by
  refine run_convert_bytes_arg _ 43 5 Try.underlying43 Try.underlying5 w.heap.size 0 1 1 ((List.range 1).map (fun i => (nth (fun _ => c) 0 i : Int))) (by simp) (fun i hi => ?_) 9 Try.underlying9
  obtain rfl : i = 0 := by omega
  exact cells_new w _ _ 0 _ rfl
/-- An Op of a script. -/
structure OpV where
  kind : Int
  n : Int
  addr : Nat
  v : Nat
  s : ByteArray
/-- Element i of the script that stands at block g, place x. -/
structure OpAt (w : World) (g x i : Nat) (o : OpV) : Prop where
  c0 : w.cell? ⟨g, x + i * 5, none⟩ = some (.int .i64 o.kind)
  c1 : w.cell? ⟨g, x + i * 5 + 1, none⟩ = some (.int .i64 o.n)
  c2 : w.cell? ⟨g, x + i * 5 + 2, none⟩ = some (.int .u32 (o.addr : Int))
  c3 : w.cell? ⟨g, x + i * 5 + 3, none⟩ = some (.int .u32 (o.v : Int))
  c4 : w.cell? ⟨g, x + i * 5 + 4, none⟩ = some (.string o.s)
  hn : -9223372036854775808 ≤ o.n ∧ o.n ≤ 9223372036854775807
  ha : o.addr < 4294967296
  hv : o.v < 4294967296
  hs : o.s.size ≤ 9223372036854775807
/-- The script: L elements. -/
def Script (w : World) (oa : Option Addr) (L : Nat) (O : Nat → OpV) : Prop := ∀ i, i < L → ∃ g x, oa = some ⟨g, x, none⟩ ∧ g < w.heap.size ∧ OpAt w g x i (O i)
theorem OpAt.below {w w' : World} {g x i : Nat} {o : OpV} (h : OpAt w g x i o) (ha : g < w.heap.size) (hb : Below w.heap.size w w') : OpAt w' g x i o :=
  ⟨(hb.cell ha).trans h.c0, (hb.cell ha).trans h.c1, (hb.cell ha).trans h.c2, (hb.cell ha).trans h.c3, (hb.cell ha).trans h.c4, h.hn, h.ha, h.hv, h.hs⟩
set_option maxHeartbeats 3200000 in
theorem walk_MemCells (oa : Option Addr) (L cap : Nat) (O : Nat → OpV) (W : World) (hL : L ≤ 9223372036854775807) (hS : Script W oa L O) :
    Calls Try.prog 5 #[.slice oa L cap] W fun e w' => e = .returned (.bool true) ∧ Below W.heap.size W w' := by
  have HS := Lib.hid hS
  clear hS
  go_enter Try.func5, Try.ntmps5
  go_wp2_with (go_at_call 9; refine hold_ ?_)
  intro _
  refine (New_named (Below.refl W.heap.size W) (Nat.le_refl _)).mono ?_
  rintro e w1 ⟨p, b, rfl, h1, k1, l1, g1, b1⟩
  have H1 := Lib.hid h1; have B1 := Lib.hid b1; have K1 := Lib.hid k1; have L1 := Lib.hid l1
  clear h1 g1 b1 k1 l1
  go_wp2_with (go_at_call 9; refine hold_ ?_)
  intro _
  refine (New_named B1.out B1.out.size).mono ?_
  rintro e w2 ⟨q, d, rfl, h2, k2, l2, g2, b2⟩
  have H2 := Lib.hid h2; have B2 := Lib.hid b2; have K2 := Lib.hid k2; have L2 := Lib.hid l2
  have M2 := Lib.hid (H1.out.kept g2 (by simp) (by simp))
  have hpl := H1.out.lt
  have hbl := H1.out.map.lt
  have e1 : Hid (p ≠ d) := Lib.hid (by omega)
  have e2 : Hid (b ≠ d) := Lib.hid (by omega)
  have e3 : Hid (q ≠ b) := Lib.hid (by omega)
  have e4 : Hid (d ≠ b) := Lib.hid (by omega)
  have L3 : Hid (W.heap.size ≤ d) := Lib.hid (Nat.le_trans B1.out.size l2)
  clear h2 g2 b2 k2 l2 hpl hbl H1
  go_upto_block 0 with (fail)
  go_cut [5] (fun s5 wc => ∃ (i n : Nat) (f : Nat → Nat), s5 = .int .i64 i ∧ Hid (n ≤ 1020) ∧ Hid (MemAt wc p b n f) ∧ Hid (MemAt wc q d 0 (fun _ => 0)) ∧ Hid (Below W.heap.size W wc))
  case first =>
    go_wp2
    go_loopw [5] (fun s5 wr => ∃ (i n : Nat) (f : Nat → Nat), i ≤ L ∧ i ≤ 30 ∧ s5 = .int .i64 i ∧ n ≤ 34 * i ∧ MemAt wr p b n f ∧ MemAt wr q d 0 (fun _ => 0) ∧ Below W.heap.size W wr) (fun s5 _ => 30 - (intOf s5).toNat)
    case atStart => exact ⟨0, 0, _, Nat.zero_le _, Nat.zero_le _, rfl, Nat.le_refl _, M2.out, H2.out, B2.out⟩
    case round =>
      obtain ⟨i, n, f, hi, hi30, rfl, hn, hM, hN, hB⟩ := hrel
      have HM := Lib.hid hM; have HN := Lib.hid hN; have HB := Lib.hid hB
      clear hM hN hB
      by_cases hlt : i < L ∧ i < 30
      · obtain ⟨h1, h2⟩ := hlt
        obtain ⟨g, x, rfl, hab, hO⟩ := HS.out i h1
        have hO2 := hO.below hab HB.out
        generalize O i = o at *
        obtain ⟨c0, c1, c2, c3, c4, hn1, ha1, hv1, hs1⟩ := hO2
        have HO := Lib.hid hO
        have HAB := Lib.hid hab
        clear hO hab
        obtain ⟨m, hm⟩ : ∃ m : Nat, m = min o.s.size 30 := ⟨_, rfl⟩
        have hmi : min (o.s.size : Int) 30 = (m : Int) := by omega
        have hm30 : m ≤ 30 := by omega
        have hmS : m ≤ o.s.size := by omega
        clear hm
        go_wp2
        have c2d : World.cell? { heap := wr.heap, tape := wr.tape, drawn := wr.drawn + 1, os := wr.os, output := wr.output } _ = _ := c2
        have c4d : World.cell? { heap := wr.heap, tape := wr.tape, drawn := wr.drawn + 1, os := wr.os, output := wr.output } _ = _ := c4
        go_still_tail 19, (by kernel_rfl)
        change wpList _ _ _ _ _ wr.drew
        have hd : Below wr.heap.size wr wr.drew := (Below.refl _ wr).drew
        have HM' := Lib.hid (HM.out.below hd); have HN' := Lib.hid (HN.out.below hd); have HB' := Lib.hid HB.out.drew
        clear HM HN HB c0 c1 c2 c3 c4 c2d c4d hd
        generalize wr.drew = w3 at *
        go_wp2_with (go_at_call 14; refine hold_ ?_)
        intro _
        obtain ⟨S, hSS⟩ : ∃ S, S = o.s.extract 0 m := ⟨_, rfl⟩
        have hSl : S.size ≤ 30 := by rw [hSS, ByteArray.size_extract]; omega
        rw [← hSS]
        clear hSS
        refine (Put_at HM'.out o.addr _ S rfl (by omega) ha1).mono ?_
        rintro e w4 ⟨rfl, h4, g4⟩
        have M4 := Lib.hid h4
        have N4 := Lib.hid (HN'.out.other g4 e3.out e4.out)
        have B4 := Lib.hid (HB'.out.grown g4 HB'.out.size (fun k hk => by cases hk; exact L1.out))
        clear h4 g4 HM' HN' HB'
        obtain ⟨c0, c1, c2, c3, c4, _, _, _, _⟩ := HO.out.below HAB.out B4.out
        go_wp2
        have c2d : World.cell? { heap := w4.heap, tape := w4.tape, drawn := w4.drawn + 1, os := w4.os, output := w4.output } _ = _ := c2
        have c3d : World.cell? { heap := w4.heap, tape := w4.tape, drawn := w4.drawn + 1, os := w4.os, output := w4.output } _ = _ := c3
        go_still_tail 12, (by kernel_rfl)
        change wpList _ _ _ _ _ w4.drew
        have hd : Below w4.heap.size w4 w4.drew := (Below.refl _ w4).drew
        have M5 := Lib.hid (M4.out.below hd); have N5 := Lib.hid (N4.out.below hd); have B5 := Lib.hid B4.out.drew
        clear M4 N4 B4 c0 c1 c2 c3 c4 c2d c3d hd
        generalize w4.drew = w5 at *
        go_wp2_with (go_at_call 10; refine hold_ ?_)
        intro _
        refine (Store_at M5.out ((o.addr + 5) % 4294967296) 4 o.v _ _ _ (by first | omega | (rw [u32_wrap]; omega)) rfl rfl (by omega) (by omega) hv1 (Or.inr (Or.inr rfl))).mono ?_
        rintro e w6 ⟨rfl, h6, g6⟩
        have M6 := Lib.hid h6
        have N6 := Lib.hid (N5.out.other g6 e3.out e4.out)
        have B6 := Lib.hid (B5.out.grown g6 B5.out.size (fun k hk => by cases hk; exact L1.out))
        clear h6 g6 M5 N5 B5
        go_wp2
        go_roundw
        case rel => exact ⟨i + 1, _, _, h1, by omega, by go_num, by omega, M6.out, N6.out, B6.out⟩
        case measure => simp [intOf]; omega
      · by_cases h1 : i < L
        · obtain rfl : i = 30 := by omega
          go_wp2
          go_meet
          case rel => exact ⟨_, n, f, rfl, Lib.hid (by omega), HM, HN, HB⟩
        · obtain rfl : i = L := by omega
          have hLL : ¬ ((i : Int) < (i : Int)) := by omega
          go_wp2
          go_meet
          case rel => exact ⟨_, n, f, rfl, Lib.hid (by omega), HM, HN, HB⟩
  case rest =>
    obtain ⟨i, n, f, rfl, HN0, HM, HN, HB⟩ := hcut
    go_wp2_with (go_at_call 12; refine hold_ ?_)
    intro _
    have hdw := HN.out.map.lt
    refine (Cells_calls _ _ _ _ _ HM.out (by have := HN0.out; omega)).mono ?_
    rintro e w7 ⟨c, l, rfl, hr, hl, ho, hz, hb⟩
    have hod : c.ownBlock = none ∨ c.ownBlock ≠ some d := by
      by_cases h : c.ownBlock = some d
      · have := (ho.lt d h).1; omega
      · exact Or.inr h
    obtain ⟨oc, capc, rfl, hoc⟩ := own_opt ho
    obtain ⟨N, hN⟩ : ∃ N, N = l.length := ⟨_, rfl⟩
    rw [← hN] at ho hoc hl hod ⊢
    have H7 := Lib.hid (HN.out.below hb)
    have B7 := Lib.hid (HB.out.trans (hb.mono HB.out.size))
    have HR := Lib.hid hr; have HO := Lib.hid ho; have HLN := Lib.hid hN; have HOC := Lib.hid hoc; have HOD := Lib.hid hod
    have hNl : N ≤ 1020 := Nat.le_trans hl HN0.out
    have hll : Hid (∀ x ∈ l, x.1 < 4294967296 ∧ x.2 < 256) := Lib.hid (fun x hx => by
      obtain ⟨h1, h2⟩ := (hr.2 x.1 x.2).1 hx
      refine ⟨?_, by rw [h1]; exact HM.out.map.2.1 _⟩
      rcases Nat.lt_or_ge x.1 4294967296 with h | h
      · exact h
      · exact absurd (h1.trans (HM.out.map.2.2 x.1 h)) h2)
    clear hr hl ho hz hb hN hoc hod hdw HM HN HB
    generalize wc.heap.size = base at *
    go_wp2
    go_loopw [7] (fun s7 wr => ∃ (j n : Nat), j ≤ N ∧ s7 = .int .i64 j ∧ n ≤ j ∧ MemAt wr q d n (lfold (l.take j)) ∧ OwnC wr base (.slice oc N capc) l ∧ Below W.heap.size W wr) (fun s7 _ => N - (intOf s7).toNat)
    case atStart => exact ⟨0, 0, Nat.zero_le _, rfl, Nat.le_refl _, H7.out, HO.out, B7.out⟩
    case round =>
      obtain ⟨j, n, hj, rfl, hn, hM, hO, hB⟩ := hrel
      have HM := Lib.hid hM; have HO2 := Lib.hid hO; have HB := Lib.hid hB
      clear hM hO hB
      by_cases hlt : j < N
      · obtain ⟨g, rfl⟩ := HOC.out (by omega)
        have hjl : j < l.length := by rw [← HLN.out]; exact hlt
        obtain ⟨x, hx⟩ : ∃ x, l[j]? = some x := ⟨_, List.getElem?_eq_getElem hjl⟩
        obtain ⟨c1, c2⟩ := HO2.out.cell HLN.out j x hx
        have hx0 : x.2 ≠ 0 := ((HR.out.2 x.1 x.2).1 (List.mem_of_getElem? hx)).2
        have hb0 : ((x.2 : Int) == 0) = false := by rw [show (0 : Int) = ((0 : Nat) : Int) from rfl, cast_ne]; exact decide_eq_false hx0
        have HX := Lib.hid hx
        have HXL : Hid (x.1 < 4294967296) := Lib.hid (hll.out x (List.mem_of_getElem? hx)).1
        have HXB : Hid (x.2 < 256) := Lib.hid (hll.out x (List.mem_of_getElem? hx)).2
        clear hx hjl hx0
        rcases j with _ | k
        · -- the first cell
          go_wp2
          go_quiet (fail)
          go_wp2
          clear c1 c2 
          have hq : Below wr.heap.size wr (wr.drewN nq) := below_drewN (Below.refl _ _) nq
          have M8 := Lib.hid (HM.out.below hq); have O8 := Lib.hid (HO2.out.below hq); have B8 := Lib.hid (below_drewN HB.out nq)
          clear hq HM HO2 HB
          generalize wr.drewN nq = w8 at *
          obtain ⟨c1, c2⟩ := O8.out.cell HLN.out 0 x HX.out
          have hq : Below w8.heap.size w8 w8.drew := (Below.refl _ w8).drew
          have M9 := Lib.hid (M8.out.below hq); have O9 := Lib.hid (O8.out.below hq); have B9 := Lib.hid B8.out.drew
          have M10 : Hid (MemAt (w8.alloc (.cells #[.int .u8 (x.2 : Int)] 5)).drew q d _ _) := Lib.hid ((M8.out.alloc (.cells #[.int .u8 (x.2 : Int)] 5)).below (Below.refl _ _).drew)
          have O10 : Hid (OwnC (w8.alloc (.cells #[.int .u8 (x.2 : Int)] 5)).drew base (.slice (some ⟨g, 0, none⟩) N capc) l) := Lib.hid ((O8.out.below (below_of_alloc _ (.cells #[.int .u8 (x.2 : Int)] 5))).below (Below.refl _ _).drew)
          have B10 : Hid (Below W.heap.size W (w8.alloc (.cells #[.int .u8 (x.2 : Int)] 5)).drew) := Lib.hid (B8.out.alloc B8.out.size (.cells #[.int .u8 (x.2 : Int)] 5)).drew
          have HG : Hid (g < w8.drew.heap.size) := Lib.hid (O9.out.lt g rfl).2
          clear hq M8 O8 B8
          have hcv : (convert 43 9 (.slice (some ⟨w8.heap.size, 0, none⟩) 1 1)).run Try.prog ((w8.alloc (.cells #[.int .u8 (x.2 : Int)] 5)).drew) = .ok (.string (strB (fun _ => x.2) 0 1)) ((w8.alloc (.cells #[.int .u8 (x.2 : Int)] 5)).drew) := conv_one x.2 w8.drew
          obtain ⟨S, hSS⟩ : ∃ S, S = strB (fun _ => x.2) 0 1 := ⟨_, rfl⟩
          rw [← hSS] at hcv
          have HSS := Lib.hid hSS
          have hs1 : Hid (S.size = 1) := Lib.hid (by rw [hSS]; exact strB_size _ _ _)
          clear hSS
          have KP := Lib.hid (Put_at M10.out x.1 (x.1 : Int) S rfl (by have := hs1.out; omega) HXL.out)
          refine wp_region_held_drew (S := fun w' => w'.cell? ⟨g, 0 * 2, none⟩ = some (.int .u32 (x.1 : Int)) ∧ w'.cell? ⟨g, 0 * 2 + 1, none⟩ = some (.int .u8 (x.2 : Int))) (by kernel_rfl) ⟨c1, c2⟩ (fun hHeld => ?_)
          refine rh_take (i := 0) (k := 91) (v := ?_) rfl rfl (by kernel_rfl) (by kernel_rfl) (by kernel_rfl) (fun _ _ _ h => h) (Or.inl ⟨by rfl, ?_⟩) hHeld ?_
          rotate_left
          · (intro w hSw; clear hSw; go_simp; try with_reducible rfl)
          simp only [Act.put, List.setIfInBounds_toArray, List.set_cons_zero, List.set_cons_succ]
          refine rh_take (i := 1) (k := 92) (v := ?_) rfl rfl (by kernel_rfl) (by kernel_rfl) (by kernel_rfl) (fun _ _ _ h => h) (Or.inl ⟨by rfl, ?_⟩) hHeld ?_
          rotate_left
          · (intro w hSw; clear hSw; go_simp; try with_reducible rfl)
          simp only [Act.put, List.setIfInBounds_toArray, List.set_cons_zero, List.set_cons_succ]
          refine rh_take (i := 2) (k := 93) (v := ?_) rfl rfl (by kernel_rfl) (by kernel_rfl) (by kernel_rfl) (fun _ _ _ h => h) (Or.inl ⟨by rfl, ?_⟩) hHeld ?_
          rotate_left
          · (intro w hSw; clear hSw; go_simp; try with_reducible rfl)
          simp only [Act.put, List.setIfInBounds_toArray, List.set_cons_zero, List.set_cons_succ]
          refine rh_take (i := 3) (k := 94) (v := ?_) rfl rfl (by kernel_rfl) (by kernel_rfl) (by kernel_rfl) (fun _ _ _ h => h) (Or.inl ⟨by rfl, ?_⟩) hHeld ?_
          rotate_left
          · (intro w hSw; clear hSw; go_simp; try with_reducible rfl)
          simp only [Act.put, List.setIfInBounds_toArray, List.set_cons_zero, List.set_cons_succ]
          refine rh_take (i := 4) (k := 95) (v := ?_) rfl rfl (by kernel_rfl) (by kernel_rfl) (by kernel_rfl) (fun _ _ _ h => h) (Or.inl ⟨by rfl, ?_⟩) hHeld ?_
          rotate_left
          · (intro w hSw; clear hSw; go_simp; try with_reducible rfl)
          simp only [Act.put, List.setIfInBounds_toArray, List.set_cons_zero, List.set_cons_succ]
          refine rh_take (i := 5) (k := 96) (v := ?_) rfl rfl (by kernel_rfl) (by kernel_rfl) (by kernel_rfl) (fun _ _ _ h => h) (Or.inl ⟨by rfl, ?_⟩) hHeld ?_
          rotate_left
          · (intro w hSw; obtain ⟨s1, s2⟩ := hSw; go_simp; try with_reducible rfl)
          simp only [Act.put, List.setIfInBounds_toArray, List.set_cons_zero, List.set_cons_succ]
          refine rh_take (i := 6) (k := 97) (v := ?_) rfl rfl (by kernel_rfl) (by kernel_rfl) (by kernel_rfl) (fun _ _ _ h => h) (Or.inl ⟨by rfl, ?_⟩) hHeld ?_
          rotate_left
          · (intro w hSw; clear hSw; go_simp; try with_reducible rfl)
          simp only [Act.put, List.setIfInBounds_toArray, List.set_cons_zero, List.set_cons_succ]
          refine rh_take (i := 7) (k := 98) (v := ?_) rfl rfl (by kernel_rfl) (by kernel_rfl) (by kernel_rfl) (fun _ _ _ h => h) (Or.inl ⟨by rfl, ?_⟩) hHeld ?_
          rotate_left
          · (intro w hSw; clear hSw; go_simp; try with_reducible rfl)
          simp only [Act.put, List.setIfInBounds_toArray, List.set_cons_zero, List.set_cons_succ]
          refine rh_take (i := 8) (k := 99) (v := ?_) rfl rfl (by kernel_rfl) (by kernel_rfl) (by kernel_rfl) (fun _ _ _ h => h) (Or.inl ⟨by rfl, ?_⟩) hHeld ?_
          rotate_left
          · (intro w hSw; clear hSw; go_simp; try with_reducible rfl)
          simp only [Act.put, List.setIfInBounds_toArray, List.set_cons_zero, List.set_cons_succ]
          refine rh_take (i := 9) (k := 100) (v := ?_) rfl rfl (by kernel_rfl) (by kernel_rfl) (by kernel_rfl) (fun _ _ _ h => h) (Or.inl ⟨by rfl, ?_⟩) hHeld ?_
          rotate_left
          · (intro w hSw; clear hSw; go_simp; try with_reducible rfl)
          simp only [Act.put, List.setIfInBounds_toArray, List.set_cons_zero, List.set_cons_succ]
          refine rh_take (i := 10) (k := 101) (v := ?_) rfl rfl (by kernel_rfl) (by kernel_rfl) (by kernel_rfl) (fun _ _ _ h => h) (Or.inl ⟨by rfl, ?_⟩) hHeld ?_
          rotate_left
          · (intro w hSw; obtain ⟨s1, s2⟩ := hSw; go_simp; try with_reducible rfl)
          simp only [Act.put, List.setIfInBounds_toArray, List.set_cons_zero, List.set_cons_succ]
          refine wpAnyH_ready (rs := [11]) (by kernel_rfl) (by simp) ?_
          refine AllReadyH.cons (i := 11) rfl (fun K hK => ?_) AllReadyH.nil
          go_simp
          refine hK.out _ _ ⟨((below_of_alloc _ _).cell HG.out).trans c1, ((below_of_alloc _ _).cell HG.out).trans c2⟩ (fun hHeld => ?_)
          clear hK K
          try simp only [Act.put, List.setIfInBounds_toArray, List.set_cons_zero, List.set_cons_succ]
          refine wpAnyH_ready (rs := [12]) (by kernel_rfl) (by simp) ?_
          refine AllReadyH.cons (i := 12) rfl (fun K hK => ?_) AllReadyH.nil
          go_simp
          refine hK.out _ _ ⟨((below_of_alloc _ _).cell HG.out).trans c1, ((below_of_alloc _ _).cell HG.out).trans c2⟩ (fun hHeld => ?_)
          clear hK K
          try simp only [Act.put, List.setIfInBounds_toArray, List.set_cons_zero, List.set_cons_succ]
          refine wpAnyH_ready (rs := [13]) (by kernel_rfl) (by simp) ?_
          refine AllReadyH.cons (i := 13) rfl (fun K hK => ?_) AllReadyH.nil
          go_simp
          refine KP.out.mono ?_
          rintro e wA ⟨rfl, hA, gA⟩
          have OA : Hid (OwnC wA base (.slice (some ⟨g, 0, none⟩) N capc) l) := Lib.hid (World.ownsRow.kept O10.out gA HOD.out)
          obtain ⟨k1, k2⟩ := OA.out.cell HLN.out 0 x HX.out
          go_wp2_with fail
          refine hK.out _ _ ⟨k1, k2⟩ (fun hHeld => ?_)
          clear hK K
          try simp only [Act.put, List.setIfInBounds_toArray, List.set_cons_zero, List.set_cons_succ]
          refine wpAnyH_done (by kernel_rfl) ?_ _
          have eA : putn (lfold (l.take 0)) x.1 (bt S) S.size = lfold (l.take (0 + 1)) := by
            rw [take_snoc l 0 x HX.out, hs1.out, lfold_snoc]
            show upd _ ((x.1 + 0) % 4294967296) (bt S 0) = _
            rw [show (x.1 + 0) % 4294967296 = x.1 by have := HXL.out; omega, HSS.out, bt_strB _ _ _ _ (by omega) (fun _ => HXB.out)]
            try rfl
          rw [eA, hs1.out] at hA
          have MA := Lib.hid hA
          have BA := Lib.hid (B10.out.grown gA B10.out.size (fun k hk => by cases hk; exact L3.out))
          clear eA hA gA M9 O9 B9 M10 O10 B10 KP hs1 hcv c1 c2 k1 k2
          go_wp2
          go_roundw
          case rel => exact ⟨0 + 1, _, hlt, by go_num, by omega, MA.out, OA.out, BA.out⟩
          case measure => simp [intOf]; omega
        · obtain ⟨y, hy⟩ : ∃ y, l[k]? = some y := ⟨_, List.getElem?_eq_getElem (by have := HLN.out; omega)⟩
          obtain ⟨d1, d2⟩ := HO2.out.cell HLN.out k y hy
          have hyx : ¬ ((x.1 : Int) ≤ (y.1 : Int)) := by
            have := List.pairwise_iff_getElem.1 HR.out.1 k (k + 1) (by have := HLN.out; omega) (by have := HLN.out; omega) (by omega)
            have ex := HX.out
            rw [List.getElem?_eq_getElem (by have := HLN.out; omega)] at ex hy
            rw [Option.some.inj ex, Option.some.inj hy] at this
            omega
          have HY := Lib.hid hy
          clear hy
          go_wp2
          go_quiet (fail)
          go_wp2
          clear c1 c2 d1 d2 hyx
          have hb1 : (0 : Int) ≤ (k : Int) + 1 := by omega
          have hb2 : (k : Int) + 1 < (N : Int) := by omega
          have hq : Below wr.heap.size wr (wr.drewN nq) := below_drewN (Below.refl _ _) nq
          have M8 := Lib.hid (HM.out.below hq); have O8 := Lib.hid (HO2.out.below hq); have B8 := Lib.hid (below_drewN HB.out nq)
          clear hq HM HO2 HB
          generalize wr.drewN nq = w8 at *
          obtain ⟨c1, c2⟩ := O8.out.cell HLN.out (k + 1) x HX.out
          have hq : Below w8.heap.size w8 w8.drew := (Below.refl _ w8).drew
          have M9 := Lib.hid (M8.out.below hq); have O9 := Lib.hid (O8.out.below hq); have B9 := Lib.hid B8.out.drew
          have M10 : Hid (MemAt (w8.alloc (.cells #[.int .u8 (x.2 : Int)] 5)).drew q d _ _) := Lib.hid ((M8.out.alloc (.cells #[.int .u8 (x.2 : Int)] 5)).below (Below.refl _ _).drew)
          have O10 : Hid (OwnC (w8.alloc (.cells #[.int .u8 (x.2 : Int)] 5)).drew base (.slice (some ⟨g, 0, none⟩) N capc) l) := Lib.hid ((O8.out.below (below_of_alloc _ (.cells #[.int .u8 (x.2 : Int)] 5))).below (Below.refl _ _).drew)
          have B10 : Hid (Below W.heap.size W (w8.alloc (.cells #[.int .u8 (x.2 : Int)] 5)).drew) := Lib.hid (B8.out.alloc B8.out.size (.cells #[.int .u8 (x.2 : Int)] 5)).drew
          have HG : Hid (g < w8.drew.heap.size) := Lib.hid (O9.out.lt g rfl).2
          clear hq M8 O8 B8
          have hcv : (convert 43 9 (.slice (some ⟨w8.heap.size, 0, none⟩) 1 1)).run Try.prog ((w8.alloc (.cells #[.int .u8 (x.2 : Int)] 5)).drew) = .ok (.string (strB (fun _ => x.2) 0 1)) ((w8.alloc (.cells #[.int .u8 (x.2 : Int)] 5)).drew) := conv_one x.2 w8.drew
          obtain ⟨S, hSS⟩ : ∃ S, S = strB (fun _ => x.2) 0 1 := ⟨_, rfl⟩
          rw [← hSS] at hcv
          have HSS := Lib.hid hSS
          have hs1 : Hid (S.size = 1) := Lib.hid (by rw [hSS]; exact strB_size _ _ _)
          clear hSS
          have KP := Lib.hid (Put_at M10.out x.1 (x.1 : Int) S rfl (by have := hs1.out; omega) HXL.out)
          refine wp_region_held_drew (S := fun w' => w'.cell? ⟨g, (k + 1) * 2, none⟩ = some (.int .u32 (x.1 : Int)) ∧ w'.cell? ⟨g, (k + 1) * 2 + 1, none⟩ = some (.int .u8 (x.2 : Int))) (by kernel_rfl) ⟨c1, c2⟩ (fun hHeld => ?_)
          refine rh_take (i := 0) (k := 91) (v := ?_) rfl rfl (by kernel_rfl) (by kernel_rfl) (by kernel_rfl) (fun _ _ _ h => h) (Or.inl ⟨by rfl, ?_⟩) hHeld ?_
          rotate_left
          · (intro w hSw; clear hSw; go_simp; try with_reducible rfl)
          simp only [Act.put, List.setIfInBounds_toArray, List.set_cons_zero, List.set_cons_succ]
          refine rh_take (i := 1) (k := 92) (v := ?_) rfl rfl (by kernel_rfl) (by kernel_rfl) (by kernel_rfl) (fun _ _ _ h => h) (Or.inl ⟨by rfl, ?_⟩) hHeld ?_
          rotate_left
          · (intro w hSw; clear hSw; go_simp; try with_reducible rfl)
          simp only [Act.put, List.setIfInBounds_toArray, List.set_cons_zero, List.set_cons_succ]
          refine rh_take (i := 2) (k := 93) (v := ?_) rfl rfl (by kernel_rfl) (by kernel_rfl) (by kernel_rfl) (fun _ _ _ h => h) (Or.inl ⟨by rfl, ?_⟩) hHeld ?_
          rotate_left
          · (intro w hSw; clear hSw; go_simp; try with_reducible rfl)
          simp only [Act.put, List.setIfInBounds_toArray, List.set_cons_zero, List.set_cons_succ]
          refine rh_take (i := 3) (k := 94) (v := ?_) rfl rfl (by kernel_rfl) (by kernel_rfl) (by kernel_rfl) (fun _ _ _ h => h) (Or.inl ⟨by rfl, ?_⟩) hHeld ?_
          rotate_left
          · (intro w hSw; clear hSw; go_simp; try with_reducible rfl)
          simp only [Act.put, List.setIfInBounds_toArray, List.set_cons_zero, List.set_cons_succ]
          refine rh_take (i := 4) (k := 95) (v := ?_) rfl rfl (by kernel_rfl) (by kernel_rfl) (by kernel_rfl) (fun _ _ _ h => h) (Or.inl ⟨by rfl, ?_⟩) hHeld ?_
          rotate_left
          · (intro w hSw; clear hSw; go_simp; try with_reducible rfl)
          simp only [Act.put, List.setIfInBounds_toArray, List.set_cons_zero, List.set_cons_succ]
          refine rh_take (i := 5) (k := 96) (v := ?_) rfl rfl (by kernel_rfl) (by kernel_rfl) (by kernel_rfl) (fun _ _ _ h => h) (Or.inl ⟨by rfl, ?_⟩) hHeld ?_
          rotate_left
          · (intro w hSw; obtain ⟨s1, s2⟩ := hSw; go_simp; try with_reducible rfl)
          simp only [Act.put, List.setIfInBounds_toArray, List.set_cons_zero, List.set_cons_succ]
          refine rh_take (i := 6) (k := 97) (v := ?_) rfl rfl (by kernel_rfl) (by kernel_rfl) (by kernel_rfl) (fun _ _ _ h => h) (Or.inl ⟨by rfl, ?_⟩) hHeld ?_
          rotate_left
          · (intro w hSw; clear hSw; go_simp; try with_reducible rfl)
          simp only [Act.put, List.setIfInBounds_toArray, List.set_cons_zero, List.set_cons_succ]
          refine rh_take (i := 7) (k := 98) (v := ?_) rfl rfl (by kernel_rfl) (by kernel_rfl) (by kernel_rfl) (fun _ _ _ h => h) (Or.inl ⟨by rfl, ?_⟩) hHeld ?_
          rotate_left
          · (intro w hSw; clear hSw; go_simp; try with_reducible rfl)
          simp only [Act.put, List.setIfInBounds_toArray, List.set_cons_zero, List.set_cons_succ]
          refine rh_take (i := 8) (k := 99) (v := ?_) rfl rfl (by kernel_rfl) (by kernel_rfl) (by kernel_rfl) (fun _ _ _ h => h) (Or.inl ⟨by rfl, ?_⟩) hHeld ?_
          rotate_left
          · (intro w hSw; clear hSw; go_simp; try with_reducible rfl)
          simp only [Act.put, List.setIfInBounds_toArray, List.set_cons_zero, List.set_cons_succ]
          refine rh_take (i := 9) (k := 100) (v := ?_) rfl rfl (by kernel_rfl) (by kernel_rfl) (by kernel_rfl) (fun _ _ _ h => h) (Or.inl ⟨by rfl, ?_⟩) hHeld ?_
          rotate_left
          · (intro w hSw; clear hSw; go_simp; try with_reducible rfl)
          simp only [Act.put, List.setIfInBounds_toArray, List.set_cons_zero, List.set_cons_succ]
          refine rh_take (i := 10) (k := 101) (v := ?_) rfl rfl (by kernel_rfl) (by kernel_rfl) (by kernel_rfl) (fun _ _ _ h => h) (Or.inl ⟨by rfl, ?_⟩) hHeld ?_
          rotate_left
          · (intro w hSw; obtain ⟨s1, s2⟩ := hSw; go_simp; try with_reducible rfl)
          simp only [Act.put, List.setIfInBounds_toArray, List.set_cons_zero, List.set_cons_succ]
          refine wpAnyH_ready (rs := [11]) (by kernel_rfl) (by simp) ?_
          refine AllReadyH.cons (i := 11) rfl (fun K hK => ?_) AllReadyH.nil
          go_simp
          refine hK.out _ _ ⟨((below_of_alloc _ _).cell HG.out).trans c1, ((below_of_alloc _ _).cell HG.out).trans c2⟩ (fun hHeld => ?_)
          clear hK K
          try simp only [Act.put, List.setIfInBounds_toArray, List.set_cons_zero, List.set_cons_succ]
          refine wpAnyH_ready (rs := [12]) (by kernel_rfl) (by simp) ?_
          refine AllReadyH.cons (i := 12) rfl (fun K hK => ?_) AllReadyH.nil
          go_simp
          refine hK.out _ _ ⟨((below_of_alloc _ _).cell HG.out).trans c1, ((below_of_alloc _ _).cell HG.out).trans c2⟩ (fun hHeld => ?_)
          clear hK K
          try simp only [Act.put, List.setIfInBounds_toArray, List.set_cons_zero, List.set_cons_succ]
          refine wpAnyH_ready (rs := [13]) (by kernel_rfl) (by simp) ?_
          refine AllReadyH.cons (i := 13) rfl (fun K hK => ?_) AllReadyH.nil
          go_simp
          refine KP.out.mono ?_
          rintro e wA ⟨rfl, hA, gA⟩
          have OA : Hid (OwnC wA base (.slice (some ⟨g, 0, none⟩) N capc) l) := Lib.hid (World.ownsRow.kept O10.out gA HOD.out)
          obtain ⟨k1, k2⟩ := OA.out.cell HLN.out (k + 1) x HX.out
          go_wp2_with fail
          refine hK.out _ _ ⟨k1, k2⟩ (fun hHeld => ?_)
          clear hK K
          try simp only [Act.put, List.setIfInBounds_toArray, List.set_cons_zero, List.set_cons_succ]
          refine wpAnyH_done (by kernel_rfl) ?_ _
          have eA : putn (lfold (l.take (k + 1))) x.1 (bt S) S.size = lfold (l.take ((k + 1) + 1)) := by
            rw [take_snoc l (k + 1) x HX.out, hs1.out, lfold_snoc]
            show upd _ ((x.1 + 0) % 4294967296) (bt S 0) = _
            rw [show (x.1 + 0) % 4294967296 = x.1 by have := HXL.out; omega, HSS.out, bt_strB _ _ _ _ (by omega) (fun _ => HXB.out)]
            try rfl
          rw [eA, hs1.out] at hA
          have MA := Lib.hid hA
          have BA := Lib.hid (B10.out.grown gA B10.out.size (fun k hk => by cases hk; exact L3.out))
          clear eA hA gA M9 O9 B9 M10 O10 B10 KP hs1 hcv c1 c2 k1 k2
          go_wp2
          go_roundw
          case rel => exact ⟨(k + 1) + 1, _, hlt, by go_num, by omega, MA.out, OA.out, BA.out⟩
          case measure => simp [intOf]; omega
      · obtain rfl : j = N := by omega
        have hf : lfold (l.take j) = f := by rw [List.take_of_length_le (by have := HLN.out; omega), lfold_rep HR.out]
        have hMf := HM.out
        rw [hf] at hMf
        have HMF := Lib.hid hMf
        clear hf hMf
        go_wp2_with (go_at_call 12; refine hold_ ?_)
        intro _
        refine (Cells_calls _ _ _ _ _ HMF.out (by omega)).mono ?_
        rintro e w8 ⟨v2, l2, rfl, hr2, hl2, ho2, hz2, hb⟩
        obtain rfl := hr2.unique HR.out
        have O2 : Hid (OwnC w8 _ v2 l2) := Lib.hid ho2
        have O1 : Hid (OwnC w8 _ (.slice oc j capc) l2) := Lib.hid (HO2.out.below hb)
        have B8 := Lib.hid (HB.out.trans (hb.mono HB.out.size))
        clear ho2 hb hr2 hz2
        go_wp2_with (go_at_call 11; refine hold_ ?_)
        intro _
        refine (Same_calls _ _ _ _ _ _ _ O2.out O1.out (by omega) (by omega)).mono ?_
        rintro e w9 ⟨rfl, nd, hw⟩
        have B9 : Hid (Below W.heap.size W w9) := by rw [hw]; exact below_drewN B8.out nd
        clear hw
        go_wp2_with (go_at_call 13; refine hold_ ?_)
        intro _
        refine (fixed_calls _).mono ?_
        rintro e w10 ⟨rfl, hb⟩
        have B10 := Lib.hid (B9.out.trans (hb.mono B9.out.size))
        clear hb
        go_wp2
        go_ret
        exact ⟨by simp, B10.out⟩
end Go.Proofs.Ytoaifpiiofpdaaa.Mm
