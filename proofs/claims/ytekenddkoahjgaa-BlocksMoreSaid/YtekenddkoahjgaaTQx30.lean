import Derived.Test.YtekenddkoahjgaaTQx0
import Derived.Test.YtekenddkoahjgaaTQx10
import Derived.Test.YtekenddkoahjgaaTQx28
import Derived.Test.YtekenddkoahjgaaTQx29
namespace Go.Proofs.Ytekenddkoahjgaa.Q
open Go.RowKit Go.Proofs.YtekenddkoahjgaaW.PrintWords Go.Proofs.YtekenddkoahjgaaW.PrintLast Go.Proofs.YtekenddkoahjgaaW.PrintMore
attribute [local go_sem] max2_int min2_int max_two min_two max_three min_three max_four min_four   -- for this text's walks alone
attribute [local go_sem] imax_u32 imax_u8 isg_u32 isg_u8
set_option linter.unusedVariables false
set_option linter.unusedSimpArgs false
def toB (x : Nat × Nat) : S40 := ⟨(x.1 : Int), (x.2 : Int)⟩
theorem drop_bv (l : List (Nat × Nat)) (j : Nat) (x : Nat × Nat) (h : l[j]? = some x) : ((Bl.bv l).drop (j * 2)).take 2 = [.int .u32 (x.1 : Int), .int .i64 (x.2 : Int)] := by
 obtain ⟨h1, h2⟩ := Bl.bv_get l j x h
 obtain ⟨g1, e1⟩ := List.getElem?_eq_some_iff.1 h1
 obtain ⟨g2, e2⟩ := List.getElem?_eq_some_iff.1 h2
 rw [List.drop_eq_getElem_cons g1, List.take_succ_cons, List.drop_eq_getElem_cons g2, List.take_succ_cons, List.take_zero, e1, e2]
theorem R_of_B {w : World} {base : Nat} {v : Value} {l : List (Nat × Nat)} (h : Bl.OwnB w base v l) : Kd.R k40 40 w base (fun _ => True) v (l.map toB) := by
 refine ⟨fun _ _ => trivial, Bl.bv l, ?_, ?_, fun j p hj => ?_⟩
 ·rw [List.length_map]; exact h
 ·rw [List.length_map]; exact Bl.bv_length l
 ·rw [List.getElem?_map] at hj
  obtain ⟨x, hx, rfl⟩ := Option.map_eq_some_iff.1 hj
  show k40.M _ _ _ _ (((Bl.bv l).drop (j * 2)).take 2)
  rw [drop_bv l j x hx]
  exact k40_mkM w base _ (toB x)
def natL (l : List Int) : List Nat := l.map Int.toNat
theorem cell_of {w : World} {A : Option Addr} {l : List Int} (h : Kd.C (Kd.int .u32) w A l.length l) (i : Nat) (x : Int) (hx : l[i]? = some x) : ∃ ad, A = some ad ∧ w.cell? (ad.add i) = some (.int .u32 x) := by
 have hp : 0 < l.length := by have := (List.getElem?_eq_some_iff.1 hx).1; omega
 obtain ⟨ad, e, hc⟩ := h.2.2 hp
 obtain ⟨c, _, hk, hcell⟩ := hc i x hx
 have hk' : c = [.int .u32 x] := hk
 subst hk'
 have := hcell 0 _ rfl
 rw [show i * (Kd.int .u32).sz + 0 = i by show i * 1 + 0 = i; omega] at this
 exact ⟨ad, e, this⟩
theorem RdU_of {w : World} {A : Option Addr} {l : List Int} (h : Kd.C (Kd.int .u32) w A l.length l) (h0 : ∀ x ∈ l, 0 ≤ x) : Bl.RdU w A (natL l) := by
 intro i hi
 have hi' : i < l.length := by simpa [natL] using hi
 obtain ⟨ad, e, hc⟩ := cell_of h i _ (List.getElem?_eq_getElem hi')
 refine ⟨ad, e, hc.trans ?_⟩
 have := h0 _ (List.getElem_mem hi')
 simp [Bl.uc, natL, List.getD_eq_getElem?_getD, List.getElem?_eq_getElem hi', Int.toNat_of_nonneg this]
def dec6 (v : Nat) : Int × Int × Int × Int × Int × Int := (inst_Decode.f 200 (v : Int)).getD (0, 0, 0, 0, 0, 20)
def decq (v : Nat) : Bl.Ins × Int := (((dec6 v).1, (dec6 v).2.1, (dec6 v).2.2.1, (dec6 v).2.2.2.1, (dec6 v).2.2.2.2.1), (dec6 v).2.2.2.2.2)
def Iq (base : Nat) (ws : List Nat) : Nat → Bl.Ins × Int := Bl.insv decq base ws
def aftq : Bl.Ins → Nat → List Nat := Bl.aftv frm rgt
def endq : Bl.Ins → Bool := Bl.endv frm rgt
theorem aftq_facts (x : Bl.Ins) (a : Nat) : (aftq x a).length ≤ 2 ∧ ∀ b ∈ aftq x a, b < 4294967296 := by
 have hT : Bl.tov x a < 4294967296 := by unfold Bl.tov; omega
 have hU : Bl.nextv a < 4294967296 := by unfold Bl.nextv; omega
 unfold aftq Bl.aftv
 split
 ·simp
 split
 ·simpa using hT
 split
 ·unfold Bl.dd
  split
  ·simp [hT, hU]
  split
  ·simp [hT, hU]
  ·simpa using hT
 split
 ·simp
 ·simpa using hU
set_option maxHeartbeats 4000000 in
theorem image_At_eq (b e : Int) (l : List Int) (s : Int) (a : Nat) (hb : 0 ≤ b ∧ b < 4294967296) (ha : a < 4294967296) (hl : l.length ≤ 1000) (h0 : ∀ x ∈ l, 0 ≤ x) :
  image_At.f b e l s (a : Int) = some (match Bl.wordv b.toNat (natL l) a with | none => (0, false) | some v => ((v : Int), true)) := by
 obtain ⟨b, rfl⟩ := Int.eq_ofNat_of_zero_le hb.1
 have w1 : wrap64 ((wrap64 (a : Int)) - (wrap64 (b : Int))) = (a : Int) - (b : Int) := by unfold wrap64; omega
 unfold image_At.f Bl.wordv
 rw [w1, Int.toNat_natCast]
 have t1 : Int.tmod (a : Int) 4 = ((a % 4 : Nat) : Int) := rfl
 by_cases h4 : a % 4 = 0
 ·rw [if_pos (by rw [t1, h4]; rfl)]
  by_cases hlt : b ≤ a
  ·have e1 : (a : Int) - (b : Int) = ((a - b : Nat) : Int) := by omega
   rw [e1, if_neg (by omega)]
   have t2 : Int.tmod ((a - b : Nat) : Int) 4 = (((a - b) % 4 : Nat) : Int) := rfl
   have t3 : Int.tdiv ((a - b : Nat) : Int) 4 = (((a - b) / 4 : Nat) : Int) := rfl
   have w2 : wrap64 (((a - b) / 4 : Nat) : Int) = (((a - b) / 4 : Nat) : Int) := by unfold wrap64; omega
   rw [t2, t3, w2]
   clear t1 t2 t3 w1 w2 e1
   by_cases hm : (a - b) % 4 = 0
   ·rw [if_pos (by rw [hm]; rfl), if_pos (show a % 4 = 0 ∧ b ≤ a ∧ (a - b) % 4 = 0 from ⟨h4, hlt, hm⟩)]
    clear h4 hm hlt ha
    generalize (a - b) / 4 = q
    by_cases hk : q < l.length
    ·rw [if_neg (by omega), if_pos (by omega), if_pos (by omega)]
     have hg : (natL l)[q]? = some (l[q].toNat) := by simp [natL, List.getElem?_eq_getElem hk]
     rw [hg]
     have hr : rd l ((q : Nat) : Int) = l[q] := by
      show l.getD (Int.toNat _) _ = _
      rw [Int.toNat_natCast, List.getD_eq_getElem?_getD, List.getElem?_eq_getElem hk]
      rfl
     have := h0 _ (List.getElem_mem hk)
     rw [hr]
     simp only [Int.toNat_of_nonneg this]
    ·rw [if_pos (by omega)]
     have hg : (natL l)[q]? = none := List.getElem?_eq_none (by simp [natL]; omega)
     rw [hg]
   ·rw [if_neg (by omega), if_neg (fun h => hm h.2.2)]
  ·rw [if_pos (by omega), if_neg (fun h => hlt h.2.1)]
 ·rw [if_neg (by rw [t1]; omega), if_neg (fun h => h4 h.1)]
theorem blocks_at_eq (b e : Int) (l : List Int) (s : Int) (a : Nat) (hb : 0 ≤ b ∧ b < 4294967296) (ha : a < 4294967296) (hl : l.length ≤ 1000) (h0 : ∀ x ∈ l, 0 ≤ x ∧ (inst_Decode.f 200 x).isSome = true) :
  blocks_at.f 200 b e l s (a : Int) = some ((Iq b.toNat (natL l) a).1.1, (Iq b.toNat (natL l) a).1.2.1, (Iq b.toNat (natL l) a).1.2.2.1, (Iq b.toNat (natL l) a).1.2.2.2.1, (Iq b.toNat (natL l) a).1.2.2.2.2, (Iq b.toNat (natL l) a).2) := by
 unfold blocks_at.f Iq Bl.insv
 rw [image_At_eq b e l s a hb ha hl (fun x hx => (h0 x hx).1), obs]
 cases hw : Bl.wordv b.toNat (natL l) a with
 | none => rfl
 | some v =>
  have hv : (v : Int) ∈ l := by
   unfold Bl.wordv at hw
   split at hw
   ·have := List.mem_of_getElem? hw
    obtain ⟨x, hx, rfl⟩ := List.mem_map.1 this
    rw [Int.toNat_of_nonneg (h0 x hx).1]
    exact hx
   ·cases hw
  have hd := (h0 _ hv).2
  obtain ⟨z, hz⟩ := Option.isSome_iff_exists.1 hd
  have hz6 : dec6 v = z := by unfold dec6; rw [hz]; rfl
  simp only [if_true, hz, obs, decq, hz6]
  by_cases h : z.2.2.2.2.2 = 0
  ·rw [if_pos h, if_neg (by simp [h])]
  ·rw [if_neg h, if_pos h]; rfl
theorem blocks_Ends_eq (op rd u v m : Int) (k : Nat) (hk : 4 ≤ k) : blocks_Ends.f k op rd u v m = some (endq (op, rd, u, v, m)) := by
 unfold blocks_Ends.f endq Bl.endv rgt
 rw [Right_eq _ _ _ _ _ k hk, obs]
 cases rightv op rd u v m with
 | false => rfl
 | true =>
  rw [if_pos rfl, Form_eq, obs]
  by_cases h : frm op = 66
  ·rw [if_pos h]; simp [h]
  rw [if_neg h]
  by_cases h2 : op = 2
  ·rw [if_pos h2]; simp [h2]
  rw [if_neg h2]
  by_cases h3 : op = 3
  ·rw [if_pos h3]; simp [h3]
  rw [if_neg h3]
  simp [h, h2, h3]
  rfl
def fuelq (l es : List Int) : Nat := 2 * l.length + es.length + 1
def okFind (b e : Int) (l es : List Int) : Prop := (0 ≤ b ∧ b < 4294967296) ∧ (0 ≤ e ∧ e < 4294967296) ∧ l.length ≤ 200 ∧ es.length ≤ 200 ∧ (∀ x ∈ l, 0 ≤ x ∧ (inst_Decode.f 200 x).isSome = true) ∧ (∀ x ∈ es, 0 ≤ x ∧ x < 4294967296) ∧ (Bl.rrun (Iq b.toNat (natL l)) aftq endq (fuelq l es) (Bl.rs0 e.toNat (natL es))).left = []
instance (b e : Int) (l es : List Int) : Decidable (okFind b e l es) := by unfold okFind; infer_instance
def findq (b e : Int) (l es : List Int) : List (Nat × Nat) × Int := Bl.findv (Iq b.toNat (natL l)) aftq endq (fuelq l es) e.toNat (natL es)
def blocks_Find.f (a0_0 : Int) (a0_1 : Int) (l0_2 : List Int) (a0_3 : Int) (l1 : List Int) : Option (List (S40) × Int) := if okFind a0_0 a0_1 l0_2 l1 then some ((findq a0_0 a0_1 l0_2 l1).1.map toB, (findq a0_0 a0_1 l0_2 l1).2) else none
theorem blocks_Find.calls (a0_0 : Int) (a0_1 : Int) (A0_2 : Option Addr) (c0_2 : Nat) (l0_2 : List Int) (a0_3 : Int) (A1 : Option Addr) (c1 : Nat) (l1 : List Int) (r1 : List (S40)) (r2 : Int) (w : World) (hr0_2 : Kd.C (Kd.int .u32) w A0_2 l0_2.length l0_2) (hc0_2 : l0_2.length ≤ c0_2) (hr1 : Kd.C (Kd.int .u32) w A1 l1.length l1) (hc1 : l1.length ≤ c1) (h : blocks_Find.f a0_0 a0_1 l0_2 a0_3 l1 = some (r1, r2)) :
  Calls Try.prog 19 #[.agg #[.int .u32 a0_0, .int .u32 a0_1, .slice A0_2 l0_2.length c0_2, .int .i64 a0_3], .slice A1 l1.length c1] w fun e w' => ∃ v0_ : Value, e = .returned (.tuple #[v0_, .int .i64 r2]) ∧ Kd.R k40 40 w' w.heap.size (fun _ => True) v0_ r1 ∧ Below w.heap.size w w' := by
 unfold blocks_Find.f at h
 split at h
 ·rename_i hs
  have h' := Option.some.inj h
  obtain rfl := congrArg Prod.fst h'
  obtain rfl := congrArg Prod.snd h'
  obtain ⟨hb, he, hl, hes, hw, hee, hfin⟩ := hs
  have hE : a0_1 = ((a0_1.toNat : Nat) : Int) := (Int.toNat_of_nonneg he.1).symm
  have hat : Bl.AtC w.heap.size w a0_0 ((a0_1.toNat : Nat) : Int) A0_2 l0_2.length c0_2 a0_3 (Iq a0_0.toNat (natL l0_2)) := by
   intro a w' ha hbl
   rw [← hE]
   exact blocks_at.calls 200 a0_0 a0_1 A0_2 c0_2 l0_2 a0_3 (a : Int) _ _ _ _ _ _ w' (Kd.C_below hr0_2 hbl) hc0_2 (blocks_at_eq a0_0 a0_1 l0_2 a0_3 a hb ha (by omega) hw)
  have hc := Bl.Find_calls (fuelq l0_2 l1) a0_0 a0_1.toNat A0_2 l0_2.length c0_2 a0_3 (Iq a0_0.toNat (natL l0_2)) aftq endq (natL l1) w A1 c1 l1.length afterC
   (fun op rd u v m w => blocks_Ends.calls 4 op rd u v m _ w (blocks_Ends_eq op rd u v m 4 (Nat.le_refl _))) hat aftq_facts (RdU_of hr1 (fun x hx => (hee x hx).1)) (by simp [natL]) (by omega)
   (by intro a ha; obtain ⟨x, hx, rfl⟩ := List.mem_map.1 ha; have := hee x hx; omega) (by unfold fuelq; omega) hfin
  rw [← hE] at hc
  refine hc.mono ?_
  rintro e w' ⟨v, rfl, hO, hbl⟩
  exact ⟨v, rfl, R_of_B hO, hbl⟩
 ·cases h
end Go.Proofs.Ytekenddkoahjgaa.Q
