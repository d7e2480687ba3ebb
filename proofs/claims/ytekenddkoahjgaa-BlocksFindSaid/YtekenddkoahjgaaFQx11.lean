import Derived.Test.YtekenddkoahjgaaFZc
import Derived.Test.YtekenddkoahjgaaFQx3
import Derived.Test.YtekenddkoahjgaaFQx10
import Derived.Test.YtekenddkoahjgaaFQx6
import Derived.Test.YtekenddkoahjgaaFQx29
section
namespace Go.Proofs.Ytekenddkoahjgaa.Q
open Go.RowKit Go.Proofs.YtekenddkoahjgaaW.PrintWords Go.Proofs.YtekenddkoahjgaaW.PrintLast Go.Proofs.YtekenddkoahjgaaW.PrintMore
attribute [local go_sem] max2_int min2_int max_two min_two max_three min_three max_four min_four
attribute [local go_sem] imax_u32 imax_u8 isg_u32 isg_u8
set_option linter.unusedVariables false
set_option linter.unusedSimpArgs false
def toB (x : Nat × Nat) : S40 := ⟨(x.1 : Int), (x.2 : Int)⟩
theorem drop_bv (l : List (Nat × Nat)) (j : Nat) (x : Nat × Nat) (h : l[j]? = some x) : ((Bl.bv l).drop (j * 2)).take 2 = [.int .u32 (x.1 : Int), .int .i64 (x.2 : Int)] := by
 obtain ⟨h1, h2⟩ := Bl.bv_get l j x h
 obtain ⟨g1, e1⟩ := List.getElem?_eq_some_iff.1 h1
 obtain ⟨g2, e2⟩ := List.getElem?_eq_some_iff.1 h2
 rw [List.drop_eq_getElem_cons g1, List.take_succ_cons, List.drop_eq_getElem_cons g2, List.take_succ_cons, List.take_zero, e1, e2]
theorem R_of_B {w : World} {base : Nat} {v : Value} {l : List (Nat × Nat)} (h : Bl.OwnB w base v l) : Kd.R k40 40 w base (fun _ => True) v (l.map toB) := by
 refine ⟨fun _ _ => trivial, Bl.bv l, ?_, ?_, fun j p hj => ?_⟩
 ·rw [List.length_map]; exact h
 ·rw [List.length_map]; exact Bl.bv_length l
 ·rw [List.getElem?_map] at hj
  obtain ⟨x, hx, rfl⟩ := Option.map_eq_some_iff.1 hj
  show k40.M _ _ _ _ (((Bl.bv l).drop (j * 2)).take 2)
  rw [drop_bv l j x hx]
  exact k40_mkM w base _ (toB x)
def natL (l : List Int) : List Nat := l.map Int.toNat
theorem cell_of {w : World} {A : Option Addr} {l : List Int} (h : Kd.C (Kd.int .u32) w A l.length l) (i : Nat) (x : Int) (hx : l[i]? = some x) : ∃ ad, A = some ad ∧ w.cell? (ad.add i) = some (.int .u32 x) := by
 have hp : 0 < l.length := by have := (List.getElem?_eq_some_iff.1 hx).1; omega
 obtain ⟨ad, e, hc⟩ := h.2.2 hp
 obtain ⟨c, _, hk, hcell⟩ := hc i x hx
 have hk' : c = [.int .u32 x] := hk
 subst hk'
 have := hcell 0 _ rfl
 rw [show i * (Kd.int .u32).sz + 0 = i by show i * 1 + 0 = i; omega] at this
 exact ⟨ad, e, this⟩
theorem RdU_of {w : World} {A : Option Addr} {l : List Int} (h : Kd.C (Kd.int .u32) w A l.length l) (h0 : ∀ x ∈ l, 0 ≤ x) : Bl.RdU w A (natL l) := by
 intro i hi
 have hi' : i < l.length := by simpa [natL] using hi
 obtain ⟨ad, e, hc⟩ := cell_of h i _ (List.getElem?_eq_getElem hi')
 refine ⟨ad, e, hc.trans ?_⟩
 have := h0 _ (List.getElem_mem hi')
 simp [Bl.uc, natL, List.getD_eq_getElem?_getD, List.getElem?_eq_getElem hi', Int.toNat_of_nonneg this]
def dec6 (v : Nat) : Int × Int × Int × Int × Int × Int := (inst_Decode.f 200 (v : Int)).getD (0, 0, 0, 0, 0, 20)
def decq (v : Nat) : Bl.Ins × Int := (((dec6 v).1, (dec6 v).2.1, (dec6 v).2.2.1, (dec6 v).2.2.2.1, (dec6 v).2.2.2.2.1), (dec6 v).2.2.2.2.2)
def Iq (base : Nat) (ws : List Nat) : Nat → Bl.Ins × Int := Bl.insv decq base ws
def aftq : Bl.Ins → Nat → List Nat := Bl.aftv frm rgt
def endq : Bl.Ins → Bool := Bl.endv frm rgt
theorem aftq_facts (x : Bl.Ins) (a : Nat) : (aftq x a).length ≤ 2 ∧ ∀ b ∈ aftq x a, b < 4294967296 := by
 have hT : Bl.tov x a < 4294967296 := by unfold Bl.tov; omega
 have hU : Bl.nextv a < 4294967296 := by unfold Bl.nextv; omega
 unfold aftq Bl.aftv
 split
 ·simp
 split
 ·simpa using hT
 split
 ·unfold Bl.dd
  split
  ·simp [hT, hU]
  split
  ·simp [hT, hU]
  ·simpa using hT
 split
 ·simp
 ·simpa using hU
set_option maxHeartbeats 4000000 in
theorem image_At_eq (b e : Int) (l : List Int) (s : Int) (a : Nat) (hb : 0 ≤ b ∧ b < 4294967296) (ha : a < 4294967296) (hl : l.length ≤ 1000) (h0 : ∀ x ∈ l, 0 ≤ x) :
  image_At.f b e l s (a : Int) = some (match Bl.wordv b.toNat (natL l) a with | none => (0, false) | some v => ((v : Int), true)) := by
 obtain ⟨b, rfl⟩ := Int.eq_ofNat_of_zero_le hb.1
 have w1 : wrap64 ((wrap64 (a : Int)) - (wrap64 (b : Int))) = (a : Int) - (b : Int) := by unfold wrap64; omega
 unfold image_At.f Bl.wordv
 rw [w1, Int.toNat_natCast]
 have t1 : Int.tmod (a : Int) 4 = ((a % 4 : Nat) : Int) := rfl
 by_cases h4 : a % 4 = 0
 ·rw [if_pos (by rw [t1, h4]; rfl)]
  by_cases hlt : b ≤ a
  ·have e1 : (a : Int) - (b : Int) = ((a - b : Nat) : Int) := by omega
   rw [e1, if_neg (by omega)]
   have t2 : Int.tmod ((a - b : Nat) : Int) 4 = (((a - b) % 4 : Nat) : Int) := rfl
   have t3 : Int.tdiv ((a - b : Nat) : Int) 4 = (((a - b) / 4 : Nat) : Int) := rfl
   have w2 : wrap64 (((a - b) / 4 : Nat) : Int) = (((a - b) / 4 : Nat) : Int) := by unfold wrap64; omega
   rw [t2, t3, w2]
   clear t1 t2 t3 w1 w2 e1
   by_cases hm : (a - b) % 4 = 0
   ·rw [if_pos (by rw [hm]; rfl), if_pos (show a % 4 = 0 ∧ b ≤ a ∧ (a - b) % 4 = 0 from ⟨h4, hlt, hm⟩)]
    clear h4 hm hlt ha
    generalize (a - b) / 4 = q
    by_cases hk : q < l.length
    ·rw [if_neg (by omega), if_pos (by omega), if_pos (by omega)]
     have hg : (natL l)[q]? = some (l[q].toNat) := by simp [natL, List.getElem?_eq_getElem hk]
     rw [hg]
     have hr : rd l ((q : Nat) : Int) = l[q] := by
      show l.getD (Int.toNat _) _ = _
      rw [Int.toNat_natCast, List.getD_eq_getElem?_getD, List.getElem?_eq_getElem hk]
      rfl
     have := h0 _ (List.getElem_mem hk)
     rw [hr]
     simp only [Int.toNat_of_nonneg this]
    ·rw [if_pos (by omega)]
     have hg : (natL l)[q]? = none := List.getElem?_eq_none (by simp [natL]; omega)
     rw [hg]
   ·rw [if_neg (by omega), if_neg (fun h => hm h.2.2)]
  ·rw [if_pos (by omega), if_neg (fun h => hlt h.2.1)]
 ·rw [if_neg (by rw [t1]; omega), if_neg (fun h => h4 h.1)]
theorem blocks_at_eq (b e : Int) (l : List Int) (s : Int) (a : Nat) (hb : 0 ≤ b ∧ b < 4294967296) (ha : a < 4294967296) (hl : l.length ≤ 1000) (h0 : ∀ x ∈ l, 0 ≤ x ∧ (inst_Decode.f 200 x).isSome = true) :
  blocks_at.f 200 b e l s (a : Int) = some ((Iq b.toNat (natL l) a).1.1, (Iq b.toNat (natL l) a).1.2.1, (Iq b.toNat (natL l) a).1.2.2.1, (Iq b.toNat (natL l) a).1.2.2.2.1, (Iq b.toNat (natL l) a).1.2.2.2.2, (Iq b.toNat (natL l) a).2) := by
 unfold blocks_at.f Iq Bl.insv
 rw [image_At_eq b e l s a hb ha hl (fun x hx => (h0 x hx).1), obs]
 cases hw : Bl.wordv b.toNat (natL l) a with
 | none => rfl
 | some v =>
  have hv : (v : Int) ∈ l := by
   unfold Bl.wordv at hw
   split at hw
   ·have := List.mem_of_getElem? hw
    obtain ⟨x, hx, rfl⟩ := List.mem_map.1 this
    rw [Int.toNat_of_nonneg (h0 x hx).1]
    exact hx
   ·cases hw
  have hd := (h0 _ hv).2
  obtain ⟨z, hz⟩ := Option.isSome_iff_exists.1 hd
  have hz6 : dec6 v = z := by unfold dec6; rw [hz]; rfl
  simp only [if_true, hz, obs, decq, hz6]
  by_cases h : z.2.2.2.2.2 = 0
  ·rw [if_pos h, if_neg (by simp [h])]
  ·rw [if_neg h, if_pos h]; rfl
theorem blocks_Ends_eq (op rd u v m : Int) (k : Nat) (hk : 4 ≤ k) : blocks_Ends.f k op rd u v m = some (endq (op, rd, u, v, m)) := by
 unfold blocks_Ends.f endq Bl.endv rgt
 rw [Right_eq _ _ _ _ _ k hk, obs]
 cases rightv op rd u v m with
 | false => rfl
 | true =>
  rw [if_pos rfl, Form_eq, obs]
  by_cases h : frm op = 66
  ·rw [if_pos h]; simp [h]
  rw [if_neg h]
  by_cases h2 : op = 2
  ·rw [if_pos h2]; simp [h2]
  rw [if_neg h2]
  by_cases h3 : op = 3
  ·rw [if_pos h3]; simp [h3]
  rw [if_neg h3]
  simp [h, h2, h3]
  rfl
def fuelq (l es : List Int) : Nat := 2 * l.length + es.length + 1
def okFind (b e : Int) (l es : List Int) : Prop := (0 ≤ b ∧ b < 4294967296) ∧ (0 ≤ e ∧ e < 4294967296) ∧ l.length ≤ 200 ∧ es.length ≤ 200 ∧ (∀ x ∈ l, 0 ≤ x ∧ (inst_Decode.f 200 x).isSome = true) ∧ (∀ x ∈ es, 0 ≤ x ∧ x < 4294967296) ∧ (Bl.rrun (Iq b.toNat (natL l)) aftq endq (fuelq l es) (Bl.rs0 e.toNat (natL es))).left = []
instance (b e : Int) (l es : List Int) : Decidable (okFind b e l es) := by unfold okFind; infer_instance
def findq (b e : Int) (l es : List Int) : List (Nat × Nat) × Int := Bl.findv (Iq b.toNat (natL l)) aftq endq (fuelq l es) e.toNat (natL es)
def blocks_Find.f (a0_0 : Int) (a0_1 : Int) (l0_2 : List Int) (a0_3 : Int) (l1 : List Int) : Option (List (S40) × Int) := if okFind a0_0 a0_1 l0_2 l1 then some ((findq a0_0 a0_1 l0_2 l1).1.map toB, (findq a0_0 a0_1 l0_2 l1).2) else none
theorem blocks_Find.calls (a0_0 : Int) (a0_1 : Int) (A0_2 : Option Addr) (c0_2 : Nat) (l0_2 : List Int) (a0_3 : Int) (A1 : Option Addr) (c1 : Nat) (l1 : List Int) (r1 : List (S40)) (r2 : Int) (w : World) (hr0_2 : Kd.C (Kd.int .u32) w A0_2 l0_2.length l0_2) (hc0_2 : l0_2.length ≤ c0_2) (hr1 : Kd.C (Kd.int .u32) w A1 l1.length l1) (hc1 : l1.length ≤ c1) (h : blocks_Find.f a0_0 a0_1 l0_2 a0_3 l1 = some (r1, r2)) :
  Calls Try.prog 19 #[.agg #[.int .u32 a0_0, .int .u32 a0_1, .slice A0_2 l0_2.length c0_2, .int .i64 a0_3], .slice A1 l1.length c1] w fun e w' => ∃ v0_ : Value, e = .returned (.tuple #[v0_, .int .i64 r2]) ∧ Kd.R k40 40 w' w.heap.size (fun _ => True) v0_ r1 ∧ Below w.heap.size w w' := by
 unfold blocks_Find.f at h
 split at h
 ·rename_i hs
  have h' := Option.some.inj h
  obtain rfl := congrArg Prod.fst h'
  obtain rfl := congrArg Prod.snd h'
  obtain ⟨hb, he, hl, hes, hw, hee, hfin⟩ := hs
  have hE : a0_1 = ((a0_1.toNat : Nat) : Int) := (Int.toNat_of_nonneg he.1).symm
  have hat : Bl.AtC w.heap.size w a0_0 ((a0_1.toNat : Nat) : Int) A0_2 l0_2.length c0_2 a0_3 (Iq a0_0.toNat (natL l0_2)) := by
   intro a w' ha hbl
   rw [← hE]
   exact blocks_at.calls 200 a0_0 a0_1 A0_2 c0_2 l0_2 a0_3 (a : Int) _ _ _ _ _ _ w' (Kd.C_below hr0_2 hbl) hc0_2 (blocks_at_eq a0_0 a0_1 l0_2 a0_3 a hb ha (by omega) hw)
  have hc := Bl.Find_calls (fuelq l0_2 l1) a0_0 a0_1.toNat A0_2 l0_2.length c0_2 a0_3 (Iq a0_0.toNat (natL l0_2)) aftq endq (natL l1) w A1 c1 l1.length afterC
   (fun op rd u v m w => blocks_Ends.calls 4 op rd u v m _ w (blocks_Ends_eq op rd u v m 4 (Nat.le_refl _))) hat aftq_facts (RdU_of hr1 (fun x hx => (hee x hx).1)) (by simp [natL]) (by omega)
   (by intro a ha; obtain ⟨x, hx, rfl⟩ := List.mem_map.1 ha; have := hee x hx; omega) (by unfold fuelq; omega) hfin
  rw [← hE] at hc
  refine hc.mono ?_
  rintro e w' ⟨v, rfl, hO, hbl⟩
  exact ⟨v, rfl, R_of_B hO, hbl⟩
 ·cases h
end Go.Proofs.Ytekenddkoahjgaa.Q
end
section
namespace Go.Proofs.Ytekenddkoahjgaa.Q
open Go.RowKit Go.Proofs.YtekenddkoahjgaaW.PrintWords Go.Proofs.YtekenddkoahjgaaW.PrintLast Go.Proofs.YtekenddkoahjgaaW.PrintMore
attribute [local go_sem] max2_int min2_int max_two min_two max_three min_three max_four min_four
attribute [local go_sem] imax_u32 imax_u8 isg_u32 isg_u8
set_option linter.unusedVariables false
set_option linter.unusedSimpArgs false
theorem eqA40 (d : Nat) (w : World) (x0 y0 : Int) (x1 y1 : Int) :
  (Op.equalIn (d + 2) 40 (.agg #[.int .u32 x0, .int .i64 x1]) (.agg #[.int .u32 y0, .int .i64 y1])).run Try.prog w = .ok (x0 == y0 && (x1 == y1)) w := by
 refine eqA_of Try.underlying40 (by kernel_rfl) ?_
 refine eqf_cons (by rfl) (by go_simp; rfl) (by go_simp; rfl) (by go_simp) ?_
 exact eqf_last (by rfl) (by go_simp; rfl) (by go_simp; rfl) (by go_simp)
end Go.Proofs.Ytekenddkoahjgaa.Q
end
section
namespace Go.Proofs.Ytekenddkoahjgaa.Q
open Go.RowKit Go.Proofs.YtekenddkoahjgaaW.PrintWords Go.Proofs.YtekenddkoahjgaaW.PrintLast Go.Proofs.YtekenddkoahjgaaW.PrintMore
attribute [local go_sem] max2_int min2_int max_two min_two max_three min_three max_four min_four
attribute [local go_sem] imax_u32 imax_u8 isg_u32 isg_u8
set_option linter.unusedVariables false
set_option linter.unusedSimpArgs false
attribute [local go_sem high] eqA40
def whetstoneref08_Same.l0 : Nat → List (S40) → List (S40) → Int → Option (Bool)
 | 0, _, _, _ => none
 | k + 1, x0, x1, x5 => if x5 < (x0.length : Int) then (if 0 ≤ x5 then (if x5 < (x1.length : Int) then (if (!(((rd_T40 x0 x5).f0) == ((rd_T40 x1 x5).f0)) || (!(((rd_T40 x0 x5).f1) == ((rd_T40 x1 x5).f1)))) = true then (some false) else (whetstoneref08_Same.l0 k x0 x1 (wrap64 (x5 + 1)))) else (none)) else (none)) else (some true)
def whetstoneref08_Same.f (k : Nat) (l0 : List (S40)) (l1 : List (S40)) : Option (Bool) := if (l0.length : Int) = (l1.length : Int) then (whetstoneref08_Same.l0 k l0 l1 0) else (some false)
set_option maxHeartbeats 8000000 in
set_option maxRecDepth 100000 in
theorem whetstoneref08_Same.calls (k : Nat) (A0 : Option Addr) (c0 : Nat) (l0 : List (S40)) (A1 : Option Addr) (c1 : Nat) (l1 : List (S40)) (r : Bool) (w : World) (hr0 : Kd.C k40 w A0 l0.length l0) (hc0 : l0.length ≤ c0) (hr1 : Kd.C k40 w A1 l1.length l1) (hc1 : l1.length ≤ c1) (h : whetstoneref08_Same.f k l0 l1 = some r) :
  Calls Try.prog 20 #[.slice A0 l0.length c0, .slice A1 l1.length c1] w fun e w' => e = .returned (.bool r) ∧ Drawn0 w w' := by
 have hu40 := Try.underlying40
 have HR0 := Aside0.mk hr0
 have HC0 := Aside0.mk hc0
 clear hr0 hc0
 have HR1 := Aside0.mk hr1
 have HC1 := Aside0.mk hc1
 clear hr1 hc1
 have H : (if (l0.length : Int) = (l1.length : Int) then (whetstoneref08_Same.l0 k l0 l1 0) else (some false)) = some r := h
 clear h
 by_cases c3 : (l0.length : Int) = (l1.length : Int)
 ·rw [if_pos c3] at H
  have c3b0 : ((l0.length : Int) == (l1.length : Int)) = true := beq_iff_eq.mpr c3
  have c3b1 : ((l0.length : Int) != (l1.length : Int)) = false := bne_eq_false_iff_eq.mpr c3
  have c3b2 : (l0.length == l1.length) = true := by first | simpa using c3 | (simp at c3 ⊢; omega)
  clear c3
  have H' := Aside0.mk H
  clear H
  go_enter Try.func20, Try.ntmps20
  go_wp2
  repeat (go_quiet (fail); try go_wp2)
  go_loopg [5] k (fun kq v5 w' => ∃ (x5_1 : Int), v5 = .int .i64 x5_1 ∧ Aside0 (whetstoneref08_Same.l0 kq l0 l1 x5_1 = some r) ∧ Aside0 (kq ≤ k) ∧ Drawn0 w w')
  case atStart => exact ⟨(0), (by first | rfl | (simp; done) | (simp [*]; done)), H', ⟨Nat.le_refl _⟩, by repeat (first | exact Drawn0.refl _ | apply Drawn0.step)⟩
  case round =>
   clear H'
   try clear c1
   try clear c2
   try clear p2
   try clear c3
   try clear c3b0
   try clear c3b1
   try clear c3b2
   obtain ⟨x5_1, rfl, HA, HK1, ⟨m1, rfl⟩⟩ := hrel
   cases gk with
   | zero => exact absurd HA.out (by simp [whetstoneref08_Same.l0])
   | succ k1 =>
    have H := HA.out
    clear HA
    simp only [whetstoneref08_Same.l0] at H
    by_cases c4 : x5_1 < (l0.length : Int)
    ·rw [if_pos c4] at H
     have c4b0 : decide (x5_1 < (l0.length : Int)) = true := decide_eq_true c4
     clear c4
     by_cases c5 : 0 ≤ x5_1
     ·rw [if_pos c5] at H
      have c5b0 : decide (0 ≤ x5_1) = true := decide_eq_true c5
      clear c5
      by_cases c6 : x5_1 < (l1.length : Int)
      ·rw [if_pos c6] at H
       have c6b0 : decide (x5_1 < (l1.length : Int)) = true := decide_eq_true c6
       clear c6
       by_cases c7 : (!(((rd_T40 l0 x5_1).f0) == ((rd_T40 l1 x5_1).f0)) || (!(((rd_T40 l0 x5_1).f1) == ((rd_T40 l1 x5_1).f1)))) = true
       ·rw [if_pos c7] at H
        have c7b0 : (!(((rd_T40 l0 x5_1).f0) == ((rd_T40 l1 x5_1).f0)) || (!(((rd_T40 l0 x5_1).f1) == ((rd_T40 l1 x5_1).f1)))) = true := c7
        clear c7
        obtain rfl := Option.some.inj H
        have p367 : 0 ≤ (x5_1 : Int) := of_decide_eq_true zzm
        have q367 : x5_1 < (l0.length : Int) := of_decide_eq_true zzm
        obtain ⟨ad367, e367, hx367_0, hx367_1⟩ := at_T40 HR0.out x5_1 p367 q367
        cases e367
        replace p367 := eq_true p367
        replace q367 := eq_true q367
        have p368 : 0 ≤ (x5_1 : Int) := of_decide_eq_true zzm
        have q368 : x5_1 < (l1.length : Int) := of_decide_eq_true zzm
        obtain ⟨ad368, e368, hx368_0, hx368_1⟩ := at_T40 HR1.out x5_1 p368 q368
        cases e368
        replace p368 := eq_true p368
        replace q368 := eq_true q368
        go_wp2
        repeat (go_quiet (fail); try go_wp2)
        go_ret
        exact ⟨by first | rfl | (simp; done) | (simp [*]; done), by repeat (first | exact Drawn0.refl _ | apply Drawn0.step)⟩
       ·rw [if_neg c7] at H
        have c7b0 : (!(((rd_T40 l0 x5_1).f0) == ((rd_T40 l1 x5_1).f0)) || (!(((rd_T40 l0 x5_1).f1) == ((rd_T40 l1 x5_1).f1)))) = false := by simpa using c7
        clear c7
        have H' := Aside0.mk H
        clear H
        have p367 : 0 ≤ (x5_1 : Int) := of_decide_eq_true zzm
        have q367 : x5_1 < (l0.length : Int) := of_decide_eq_true zzm
        obtain ⟨ad367, e367, hx367_0, hx367_1⟩ := at_T40 HR0.out x5_1 p367 q367
        cases e367
        replace p367 := eq_true p367
        replace q367 := eq_true q367
        have p368 : 0 ≤ (x5_1 : Int) := of_decide_eq_true zzm
        have q368 : x5_1 < (l1.length : Int) := of_decide_eq_true zzm
        obtain ⟨ad368, e368, hx368_0, hx368_1⟩ := at_T40 HR1.out x5_1 p368 q368
        cases e368
        replace p368 := eq_true p368
        replace q368 := eq_true q368
        go_wp2
        repeat (go_quiet (fail); try go_wp2)
        go_roundg k1
        case measure => have := HK1.out; omega
        case rel => exact ⟨(wrap64 (x5_1 + 1)), (by first | rfl | (simp; done) | (simp [*]; done)), H', ⟨by have := HK1.out; omega⟩, by repeat (first | exact Drawn0.refl _ | apply Drawn0.step)⟩
      ·rw [if_neg c6] at H
       exact absurd H (by simp)
     ·rw [if_neg c5] at H
      exact absurd H (by simp)
    ·rw [if_neg c4] at H
     have c4b0 : decide (x5_1 < (l0.length : Int)) = false := decide_eq_false c4
     clear c4
     obtain rfl := Option.some.inj H
     go_wp2
     repeat (go_quiet (fail); try go_wp2)
     go_ret
     exact ⟨by first | rfl | (simp; done) | (simp [*]; done), by repeat (first | exact Drawn0.refl _ | apply Drawn0.step)⟩
 ·rw [if_neg c3] at H
  have c3b0 : ((l0.length : Int) == (l1.length : Int)) = false := beq_eq_false_iff_ne.mpr c3
  have c3b1 : ((l0.length : Int) != (l1.length : Int)) = true := bne_iff_ne.mpr c3
  have c3b2 : (l0.length == l1.length) = false := by first | simpa using c3 | (simp at c3 ⊢; omega)
  obtain rfl := Option.some.inj H
  go_enter Try.func20, Try.ntmps20
  go_wp2
  repeat (go_quiet (fail); try go_wp2)
  go_ret
  exact ⟨by first | rfl | (simp; done) | (simp [*]; done), by repeat (first | exact Drawn0.refl _ | apply Drawn0.step)⟩
def slices_Index_uint32_uint32.l0 : Nat → List Int → Int → Int → Int → Option (Int)
 | 0, _, _, _, _ => none
 | k + 1, x0, x1, x7, x8 => if x8 < x7 then (if 0 ≤ x8 then (if x8 < (x0.length : Int) then (if x1 = (rd x0 x8) then (some x8) else (slices_Index_uint32_uint32.l0 k x0 x1 x7 (wrap64 (x8 + 1)))) else (none)) else (none)) else (some (-1))
def slices_Index_uint32_uint32.f (k : Nat) (l0 : List Int) (a1 : Int) : Option (Int) := slices_Index_uint32_uint32.l0 k l0 a1 (l0.length : Int) 0
set_option maxHeartbeats 8000000 in
set_option maxRecDepth 100000 in
theorem slices_Index_uint32_uint32.calls (k : Nat) (A0 : Option Addr) (c0 : Nat) (l0 : List Int) (a1 : Int) (r : Int) (w : World) (hr0 : Kd.C (Kd.int .u32) w A0 l0.length l0) (hc0 : l0.length ≤ c0) (h : slices_Index_uint32_uint32.f k l0 a1 = some r) :
  Calls Try.prog 61 #[.slice A0 l0.length c0, .int .u32 a1] w fun e w' => e = .returned (.int .i64 r) ∧ Drawn0 w w' := by
 have HR0 := Aside0.mk hr0
 have HC0 := Aside0.mk hc0
 clear hr0 hc0
 have H : (slices_Index_uint32_uint32.l0 k l0 a1 (l0.length : Int) 0) = some r := h
 clear h
 have H' := Aside0.mk H
 clear H
 go_enter Try.func61, Try.ntmps61
 go_wp2
 go_loopg [8] k (fun kq v8 w' => ∃ (x8_1 : Int), v8 = .int .i64 x8_1 ∧ Aside0 (slices_Index_uint32_uint32.l0 kq l0 a1 (l0.length : Int) x8_1 = some r) ∧ Aside0 (kq ≤ k) ∧ Drawn0 w w')
 case atStart => exact ⟨(0), (by first | rfl | (simp; done) | (simp [*]; done)), H', ⟨Nat.le_refl _⟩, by repeat (first | exact Drawn0.refl _ | apply Drawn0.step)⟩
 case round =>
  clear H'
  try clear p2
  obtain ⟨x8_1, rfl, HA, HK1, ⟨m1, rfl⟩⟩ := hrel
  cases gk with
  | zero => exact absurd HA.out (by simp [slices_Index_uint32_uint32.l0])
  | succ k1 =>
   have H := HA.out
   clear HA
   simp only [slices_Index_uint32_uint32.l0] at H
   by_cases c3 : x8_1 < (l0.length : Int)
   ·rw [if_pos c3] at H
    have c3b0 : decide (x8_1 < (l0.length : Int)) = true := decide_eq_true c3
    clear c3
    by_cases c4 : 0 ≤ x8_1
    ·rw [if_pos c4] at H
     have c4b0 : decide (0 ≤ x8_1) = true := decide_eq_true c4
     clear c4
     by_cases c5 : x8_1 < (l0.length : Int)
     ·rw [if_pos c5] at H
      have c5b0 : decide (x8_1 < (l0.length : Int)) = true := decide_eq_true c5
      clear c5
      by_cases c6 : a1 = (rd l0 x8_1)
      ·rw [if_pos c6] at H
       have c6b0 : (a1 == (rd l0 x8_1)) = true := beq_iff_eq.mpr c6
       have c6b1 : (a1 != (rd l0 x8_1)) = false := bne_eq_false_iff_eq.mpr c6
       clear c6
       obtain rfl := Option.some.inj H
       have p369 : 0 ≤ (x8_1 : Int) := of_decide_eq_true zzm
       have q369 : x8_1 < (l0.length : Int) := of_decide_eq_true zzm
       obtain ⟨ad369, e369, hx369_0⟩ := Kd.at_int HR0.out x8_1 p369 q369
       cases e369
       replace p369 := eq_true p369
       replace q369 := eq_true q369
       go_wp2
       go_ret
       exact ⟨by first | rfl | (simp; done) | (simp [*]; done), by repeat (first | exact Drawn0.refl _ | apply Drawn0.step)⟩
      ·rw [if_neg c6] at H
       have c6b0 : (a1 == (rd l0 x8_1)) = false := beq_eq_false_iff_ne.mpr c6
       have c6b1 : (a1 != (rd l0 x8_1)) = true := bne_iff_ne.mpr c6
       have H' := Aside0.mk H
       clear H
       have p369 : 0 ≤ (x8_1 : Int) := of_decide_eq_true zzm
       have q369 : x8_1 < (l0.length : Int) := of_decide_eq_true zzm
       obtain ⟨ad369, e369, hx369_0⟩ := Kd.at_int HR0.out x8_1 p369 q369
       cases e369
       replace p369 := eq_true p369
       replace q369 := eq_true q369
       go_wp2
       go_roundg k1
       case measure => have := HK1.out; omega
       case rel => exact ⟨(wrap64 (x8_1 + 1)), (by first | rfl | (simp; done) | (simp [*]; done)), H', ⟨by have := HK1.out; omega⟩, by repeat (first | exact Drawn0.refl _ | apply Drawn0.step)⟩
     ·rw [if_neg c5] at H
      exact absurd H (by simp)
    ·rw [if_neg c4] at H
     exact absurd H (by simp)
   ·rw [if_neg c3] at H
    have c3b0 : decide (x8_1 < (l0.length : Int)) = false := decide_eq_false c3
    clear c3
    obtain rfl := Option.some.inj H
    go_wp2
    go_ret
    exact ⟨by first | rfl | (simp; done) | (simp [*]; done), by repeat (first | exact Drawn0.refl _ | apply Drawn0.step)⟩
end Go.Proofs.Ytekenddkoahjgaa.Q
end
section
namespace Go.Proofs.Ytekenddkoahjgaa.Q
open Go.RowKit Go.Proofs.YtekenddkoahjgaaW.PrintWords Go.Proofs.YtekenddkoahjgaaW.PrintLast Go.Proofs.YtekenddkoahjgaaW.PrintMore
attribute [local go_sem] max2_int min2_int max_two min_two max_three min_three max_four min_four
attribute [local go_sem] imax_u32 imax_u8 isg_u32 isg_u8
set_option linter.unusedVariables false
set_option linter.unusedSimpArgs false
def whetstoneref02_Form.f (a0 : Int) : Option (Int) := if a0 < 0 then (some 0) else ((whetstoneref02_forms.f).bind fun t128 => (if a0 ≥ (t128.size : Int) then (some 0) else ((whetstoneref02_forms.f).bind fun t129 => (if 0 ≤ a0 then (if a0 < (t129.size : Int) then (some (bt t129 a0)) else (none)) else (none)))))
set_option maxHeartbeats 8000000 in
set_option maxRecDepth 100000 in
theorem whetstoneref02_Form.calls (a0 : Int) (r : Int) (w : World) (h : whetstoneref02_Form.f a0 = some r) :
  Calls Try.prog 31 #[.int .i64 a0] w fun e w' => e = .returned (.int .u8 r) ∧ Drawn0 w w' := by
 have H : (if a0 < 0 then (some 0) else ((whetstoneref02_forms.f).bind fun t128 => (if a0 ≥ (t128.size : Int) then (some 0) else ((whetstoneref02_forms.f).bind fun t129 => (if 0 ≤ a0 then (if a0 < (t129.size : Int) then (some (bt t129 a0)) else (none)) else (none)))))) = some r := h
 clear h
 by_cases c2 : a0 < 0
 ·rw [if_pos c2] at H
  have c2b0 : decide (a0 < 0) = true := decide_eq_true c2
  clear c2
  obtain rfl := Option.some.inj H
  go_enter Try.func31, Try.ntmps31
  go_wp2
  go_ret
  exact ⟨by first | rfl | (simp; done) | (simp [*]; done), by repeat (first | exact Drawn0.refl _ | apply Drawn0.step)⟩
 ·rw [if_neg c2] at H
  have c2b0 : decide (a0 < 0) = false := decide_eq_false c2
  clear c2
  replace H := Option.bind_eq_some_iff.mp H
  obtain ⟨t128, A30, H⟩ := H
  replace H : (if a0 ≥ (t128.size : Int) then (some 0) else ((whetstoneref02_forms.f).bind fun t129 => (if 0 ≤ a0 then (if a0 < (t129.size : Int) then (some (bt t129 a0)) else (none)) else (none)))) = some r := H
  have A3 := Aside0.mk A30
  clear A30
  by_cases c4 : a0 ≥ (t128.size : Int)
  ·rw [if_pos c4] at H
   have c4b0 : decide ((t128.size : Int) ≤ a0) = true := decide_eq_true c4
   clear c4
   obtain rfl := Option.some.inj H
   go_enter Try.func31, Try.ntmps31
   go_wp2_with (first | (go_at_call 55; (with_reducible refine (whetstoneref02_forms.calls  t128 _ A3.out).mono ?_); rintro e w' ⟨rfl, ⟨nd, rfl⟩⟩))
   go_ret
   exact ⟨by first | rfl | (simp; done) | (simp [*]; done), by repeat (first | exact Drawn0.refl _ | apply Drawn0.step)⟩
  ·rw [if_neg c4] at H
   have c4b0 : decide ((t128.size : Int) ≤ a0) = false := decide_eq_false c4
   clear c4
   replace H := Option.bind_eq_some_iff.mp H
   obtain ⟨t129, A50, H⟩ := H
   replace H : (if 0 ≤ a0 then (if a0 < (t129.size : Int) then (some (bt t129 a0)) else (none)) else (none)) = some r := H
   have A5 := Aside0.mk A50
   clear A50
   by_cases c6 : 0 ≤ a0
   ·rw [if_pos c6] at H
    have c6b0 : decide (0 ≤ a0) = true := decide_eq_true c6
    clear c6
    by_cases c7 : a0 < (t129.size : Int)
    ·rw [if_pos c7] at H
     have c7b0 : decide (a0 < (t129.size : Int)) = true := decide_eq_true c7
     clear c7
     obtain rfl := Option.some.inj H
     go_enter Try.func31, Try.ntmps31
     go_wp2_with (first | (go_at_call 55; (with_reducible refine (whetstoneref02_forms.calls  t128 _ A3.out).mono ?_); rintro e w' ⟨rfl, ⟨nd, rfl⟩⟩) | ((with_reducible refine gate_callee (f := 55) rfl ?_); refine goesL_ (some 11) rfl rfl Try.func55 (by kernel_rfl) rfl #[] rfl zza ?_; (with_reducible refine (whetstoneref02_forms.calls  t129 _ A5.out).mono ?_); rintro e w' ⟨rfl, ⟨nd, rfl⟩⟩; refine ⟨_, rfl, ?_⟩; have p8 : 0 ≤ (a0 : Int) := of_decide_eq_true zzm; have q8 : a0 < (t129.size : Int) := of_decide_eq_true zzm; have hx8 := bt_at t129 a0; replace p8 := eq_true p8; replace q8 := eq_true q8))
     go_ret
     exact ⟨by first | rfl | (simp; done) | (simp [*]; done), by repeat (first | exact Drawn0.refl _ | apply Drawn0.step)⟩
    ·rw [if_neg c7] at H
     exact absurd H (by simp)
   ·rw [if_neg c6] at H
    exact absurd H (by simp)
def whetstoneref02_span.j0 : Nat → Int → Bool → Option (Int × Int × Int)
 | 0, _, _ => none
 | k + 1, x5, x10 => if x10 = true then (some ((-2048), 2047, 1)) else (if x5 = 66 then (some ((-4096), 4094, 2)) else (if x5 = 72 then (some (0, 31, 1)) else (some (0, 0, 1))))
def whetstoneref02_span.f (k : Nat) (a0 : Int) : Option (Int × Int × Int) := if a0 = 85 then (some (0, 1048575, 1)) else (if a0 = 74 then (some ((-1048576), 1048574, 2)) else (if a0 = 73 then (whetstoneref02_span.j0 k a0 (a0 == 73)) else (whetstoneref02_span.j0 k a0 (a0 == 83))))
theorem whetstoneref02_span.mono_l : ∀ k, (∀ y0 y1, LeO (whetstoneref02_span.j0 k y0 y1) (whetstoneref02_span.j0 (k + 1) y0 y1))
 | 0 => fun _ _ r h => by simp [whetstoneref02_span.j0] at h
 | k + 1 => by
  have ih0 := whetstoneref02_span.mono_l k
  ·intro y0 y1
   unfold whetstoneref02_span.j0
   repeat' first
   | (with_reducible exact ih0 _ _)
   | (with_reducible exact LeO.refl _)
   | (with_reducible exact LeO.none _)
   | (with_reducible refine LeO.ite ?_ ?_)
   | (with_reducible refine LeO.bind ?_ (fun _ => ?_))
   | exact ih0 _ _
   | exact LeO.none _
   | refine LeO.ite ?_ ?_
   | refine LeO.bind ?_ (fun _ => ?_)
theorem whetstoneref02_span.mono : ∀ a0 k, LeO (whetstoneref02_span.f k a0) (whetstoneref02_span.f (k + 1) a0) := by
 intro a0 k
 have ih0 := whetstoneref02_span.mono_l k
 unfold whetstoneref02_span.f
 repeat' first
   | (with_reducible exact ih0 _ _)
   | (with_reducible exact LeO.refl _)
   | (with_reducible exact LeO.none _)
   | (with_reducible refine LeO.ite ?_ ?_)
   | (with_reducible refine LeO.bind ?_ (fun _ => ?_))
   | exact ih0 _ _
   | exact LeO.none _
   | refine LeO.ite ?_ ?_
   | refine LeO.bind ?_ (fun _ => ?_)
set_option maxHeartbeats 8000000 in
set_option maxRecDepth 100000 in
theorem whetstoneref02_span.calls (k : Nat) (a0 : Int) (r1 : Int) (r2 : Int) (r3 : Int) (w : World) (h : whetstoneref02_span.f k a0 = some (r1, r2, r3)) :
  Calls Try.prog 52 #[.int .u8 a0] w fun e w' => e = .returned (.tuple #[.int .i64 r1, .int .i64 r2, .int .i64 r3]) ∧ Drawn0 w w' := by
 have H : (if a0 = 85 then (some (0, 1048575, 1)) else (if a0 = 74 then (some ((-1048576), 1048574, 2)) else (if a0 = 73 then (whetstoneref02_span.j0 k a0 (a0 == 73)) else (whetstoneref02_span.j0 k a0 (a0 == 83))))) = some (r1, r2, r3) := h
 clear h
 by_cases c2 : a0 = 85
 ·rw [if_pos c2] at H
  have c2b0 : (a0 == 85) = true := beq_iff_eq.mpr c2
  have c2b1 : (a0 != 85) = false := bne_eq_false_iff_eq.mpr c2
  clear c2
  simp only [Option.some.injEq, Prod.mk.injEq] at H
  obtain ⟨rfl, rfl, rfl⟩ := H
  go_enter Try.func52, Try.ntmps52
  go_wp2
  go_ret3
  exact ⟨by first | rfl | (simp; done) | (simp [*]; done), by repeat (first | exact Drawn0.refl _ | apply Drawn0.step)⟩
 ·rw [if_neg c2] at H
  have c2b0 : (a0 == 85) = false := beq_eq_false_iff_ne.mpr c2
  have c2b1 : (a0 != 85) = true := bne_iff_ne.mpr c2
  by_cases c3 : a0 = 74
  ·rw [if_pos c3] at H
   have c3b0 : (a0 == 74) = true := beq_iff_eq.mpr c3
   have c3b1 : (a0 != 74) = false := bne_eq_false_iff_eq.mpr c3
   clear c3
   simp only [Option.some.injEq, Prod.mk.injEq] at H
   obtain ⟨rfl, rfl, rfl⟩ := H
   go_enter Try.func52, Try.ntmps52
   go_wp2
   go_ret3
   exact ⟨by first | rfl | (simp; done) | (simp [*]; done), by repeat (first | exact Drawn0.refl _ | apply Drawn0.step)⟩
  ·rw [if_neg c3] at H
   have c3b0 : (a0 == 74) = false := beq_eq_false_iff_ne.mpr c3
   have c3b1 : (a0 != 74) = true := bne_iff_ne.mpr c3
   have HC4 := Aside0.mk H
   clear H
   go_enter Try.func52, Try.ntmps52
   go_upto_if 10 with (fail)
   go_cut [10] (fun v10 wc => ∃ (kq : Nat) (x10_3 : Bool), v10 = .bool x10_3 ∧ Aside0 (whetstoneref02_span.j0 kq a0 x10_3 = some (r1, r2, r3)) ∧ Aside0 (kq ≤ k) ∧ Drawn0 w wc)
   case first =>
    have H := HC4.out
    clear HC4
    by_cases c5 : a0 = 73
    ·rw [if_pos c5] at H
     have c5b0 : (a0 == 73) = true := beq_iff_eq.mpr c5
     have c5b1 : (a0 != 73) = false := bne_eq_false_iff_eq.mpr c5
     clear c5
     (first | rw [c5b0] | (simp only [i64_w, i32_w]; rw [c5b0]) | skip)
     have H' := Aside0.mk H
     clear H
     go_wp2
     go_meet
     case rel => exact ⟨_, ((a0 == 73)), (by first | rfl | (simp; done) | (simp [*]; done)), H', ⟨by first | omega | exact Nat.le_refl _⟩, by repeat (first | exact Drawn0.refl _ | apply Drawn0.step)⟩
    ·rw [if_neg c5] at H
     have c5b0 : (a0 == 73) = false := beq_eq_false_iff_ne.mpr c5
     have c5b1 : (a0 != 73) = true := bne_iff_ne.mpr c5
     (first | rw [c5b0] | (simp only [i64_w, i32_w]; rw [c5b0]) | skip)
     have H' := Aside0.mk H
     clear H
     go_wp2
     go_meet
     case rel => exact ⟨_, ((a0 == 83)), (by first | rfl | (simp; done) | (simp [*]; done)), H', ⟨by first | omega | exact Nat.le_refl _⟩, by repeat (first | exact Drawn0.refl _ | apply Drawn0.step)⟩
   case rest =>
    clear HC4
    try clear c2
    try clear c2b0
    try clear c2b1
    try clear p2
    try clear c3
    try clear c3b0
    try clear c3b1
    try clear c5
    try clear c5b0
    try clear c5b1
    obtain ⟨kq, x10_3, rfl, HA, HJ3, ⟨mc3, rfl⟩⟩ := hcut
    cases kq with
    | zero => exact absurd HA.out (by simp [whetstoneref02_span.j0])
    | succ kj3 =>
     have H := HA.out
     clear HA
     simp only [whetstoneref02_span.j0] at H
     by_cases c6 : x10_3 = true
     ·subst c6
      have H1 : (some ((-2048), 2047, 1)) = some (r1, r2, r3) := by rw [if_pos rfl] at H; exact H
      clear H
      have H := H1
      clear H1
      simp only [Option.some.injEq, Prod.mk.injEq] at H
      obtain ⟨rfl, rfl, rfl⟩ := H
      go_wp2
      go_ret3
      exact ⟨by first | rfl | (simp; done) | (simp [*]; done), by repeat (first | exact Drawn0.refl _ | apply Drawn0.step)⟩
     ·replace c6 := Bool.eq_false_iff.mpr c6
      subst c6
      have H1 : (if a0 = 66 then (some ((-4096), 4094, 2)) else (if a0 = 72 then (some (0, 31, 1)) else (some (0, 0, 1)))) = some (r1, r2, r3) := by rw [if_neg (show ¬ (false = true) by decide)] at H; exact H
      clear H
      have H := H1
      clear H1
      by_cases c7 : a0 = 66
      ·rw [if_pos c7] at H
       have c7b0 : (a0 == 66) = true := beq_iff_eq.mpr c7
       have c7b1 : (a0 != 66) = false := bne_eq_false_iff_eq.mpr c7
       clear c7
       simp only [Option.some.injEq, Prod.mk.injEq] at H
       obtain ⟨rfl, rfl, rfl⟩ := H
       go_wp2
       go_ret3
       exact ⟨by first | rfl | (simp; done) | (simp [*]; done), by repeat (first | exact Drawn0.refl _ | apply Drawn0.step)⟩
      ·rw [if_neg c7] at H
       have c7b0 : (a0 == 66) = false := beq_eq_false_iff_ne.mpr c7
       have c7b1 : (a0 != 66) = true := bne_iff_ne.mpr c7
       by_cases c8 : a0 = 72
       ·rw [if_pos c8] at H
        have c8b0 : (a0 == 72) = true := beq_iff_eq.mpr c8
        have c8b1 : (a0 != 72) = false := bne_eq_false_iff_eq.mpr c8
        clear c8
        simp only [Option.some.injEq, Prod.mk.injEq] at H
        obtain ⟨rfl, rfl, rfl⟩ := H
        go_wp2
        go_ret3
        exact ⟨by first | rfl | (simp; done) | (simp [*]; done), by repeat (first | exact Drawn0.refl _ | apply Drawn0.step)⟩
       ·rw [if_neg c8] at H
        have c8b0 : (a0 == 72) = false := beq_eq_false_iff_ne.mpr c8
        have c8b1 : (a0 != 72) = true := bne_iff_ne.mpr c8
        simp only [Option.some.injEq, Prod.mk.injEq] at H
        obtain ⟨rfl, rfl, rfl⟩ := H
        go_wp2
        go_ret3
        exact ⟨by first | rfl | (simp; done) | (simp [*]; done), by repeat (first | exact Drawn0.refl _ | apply Drawn0.step)⟩
def whetstoneref02_reg.f (a0 : Int) (a1 : Bool) : Option (Bool) := if a0 = 0 then (some true) else (if a1 = true then (if a0 > 0 then (some (decide (a0 < 32))) else (some false)) else (some false))
set_option maxHeartbeats 8000000 in
set_option maxRecDepth 100000 in
theorem whetstoneref02_reg.calls (a0 : Int) (a1 : Bool) (r : Bool) (w : World) (h : whetstoneref02_reg.f a0 a1 = some r) :
  Calls Try.prog 53 #[.int .i64 a0, .bool a1] w fun e w' => e = .returned (.bool r) ∧ Drawn0 w w' := by
 have H : (if a0 = 0 then (some true) else (if a1 = true then (if a0 > 0 then (some (decide (a0 < 32))) else (some false)) else (some false))) = some r := h
 clear h
 by_cases c3 : a0 = 0
 ·rw [if_pos c3] at H
  have c3b0 : (a0 == 0) = true := beq_iff_eq.mpr c3
  have c3b1 : (a0 != 0) = false := bne_eq_false_iff_eq.mpr c3
  clear c3
  obtain rfl := Option.some.inj H
  go_enter Try.func53, Try.ntmps53
  go_wp2
  go_ret
  exact ⟨by first | rfl | (simp; done) | (simp [*]; done), by repeat (first | exact Drawn0.refl _ | apply Drawn0.step)⟩
 ·rw [if_neg c3] at H
  have c3b0 : (a0 == 0) = false := beq_eq_false_iff_ne.mpr c3
  have c3b1 : (a0 != 0) = true := bne_iff_ne.mpr c3
  by_cases c4 : a1 = true
  ·subst c4
   have H1 : (if a0 > 0 then (some (decide (a0 < 32))) else (some false)) = some r := by rw [if_pos rfl] at H; exact H
   clear H
   have H := H1
   clear H1
   by_cases c5 : a0 > 0
   ·rw [if_pos c5] at H
    have c5b0 : decide (0 < a0) = true := decide_eq_true c5
    clear c5
    obtain rfl := Option.some.inj H
    go_enter Try.func53, Try.ntmps53
    go_wp2
    go_ret
    exact ⟨by first | rfl | (simp; done) | (simp [*]; done), by repeat (first | exact Drawn0.refl _ | apply Drawn0.step)⟩
   ·rw [if_neg c5] at H
    have c5b0 : decide (0 < a0) = false := decide_eq_false c5
    clear c5
    obtain rfl := Option.some.inj H
    go_enter Try.func53, Try.ntmps53
    go_wp2
    go_ret
    exact ⟨by first | rfl | (simp; done) | (simp [*]; done), by repeat (first | exact Drawn0.refl _ | apply Drawn0.step)⟩
  ·replace c4 := Bool.eq_false_iff.mpr c4
   subst c4
   have H1 : (some false) = some r := by rw [if_neg (show ¬ (false = true) by decide)] at H; exact H
   clear H
   have H := H1
   clear H1
   obtain rfl := Option.some.inj H
   go_enter Try.func53, Try.ntmps53
   go_wp2
   go_ret
   exact ⟨by first | rfl | (simp; done) | (simp [*]; done), by repeat (first | exact Drawn0.refl _ | apply Drawn0.step)⟩
end Go.Proofs.Ytekenddkoahjgaa.Q
end
