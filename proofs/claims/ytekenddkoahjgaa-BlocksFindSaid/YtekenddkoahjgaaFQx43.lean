import Derived.Test.YtekenddkoahjgaaFZc
import Derived.Test.YtekenddkoahjgaaFLB
import Derived.Test.YtekenddkoahjgaaFQx3
import Derived.Test.YtekenddkoahjgaaFQx10
import Derived.Test.YtekenddkoahjgaaFQx11
import Derived.Test.YtekenddkoahjgaaFQx13
import Derived.Test.YtekenddkoahjgaaFQx6
import Derived.Test.YtekenddkoahjgaaFQx39
import Derived.Test.YtekenddkoahjgaaFQx40
namespace Go.Proofs.Ytekenddkoahjgaa.Q
open Go.RowKit Go.Proofs.YtekenddkoahjgaaW.PrintWords Go.Proofs.YtekenddkoahjgaaW.PrintLast Go.Proofs.YtekenddkoahjgaaW.PrintMore
attribute [local go_sem] max2_int min2_int max_two min_two max_three min_three max_four min_four
attribute [local go_sem] imax_u32 imax_u8 isg_u32 isg_u8
set_option linter.unusedVariables false
set_option linter.unusedSimpArgs false
theorem rEnds_all (op rd u v m : Int) : whetstoneref08_Ends.f 200 op rd u v m = some (endq (op, rd, u, v, m)) := by
 rw [← blocks_Ends_eq op rd u v m 200 (by decide)]
 unfold whetstoneref08_Ends.f blocks_Ends.f
 rw [rRight_eq, Right_eq _ _ _ _ _ 200 (by decide), rForm_eq, Form_eq]
theorem rfmE : rfm = frm := by
 funext op
 unfold rfm
 rw [rForm_eq]
 rfl
theorem rrgE : rrg = rgt := by
 funext x
 unfold rrg rgt
 rw [rRight_eq]
 rfl
theorem rAftC : Bl.rAfterC aftq := by
 intro op rd u v m a w ha
 have hf : whetstoneref08_After.f op rd u v m (a : Int) = some (castL (aftq (op, rd, u, v, m) a)) := by
  unfold whetstoneref08_After.f
  rw [if_pos ⟨⟨by omega, by omega⟩, by rw [rForm_eq]; rfl, by rw [rRight_eq]; rfl⟩, Int.toNat_natCast, rfmE, rrgE]
  rfl
 have h3 : frm 3 ≠ 66 := by rw [← rfmE]; exact rfm3
 refine (Bl.rAfter_calls frm rgt h3 op rd u v m (fun w => (whetstoneref02_Form.calls op (frm op) w (rForm_eq op)).mono fun _ _ h => ⟨h.1, h.2.below⟩) (fun w => whetstoneref02_Right.calls 200 op rd u v m _ w (rRight_eq _ _ _ _ _)) a w _ rfl).mono ?_
 exact fun _ _ h => h
theorem rdW (l : List Int) (j : Nat) (x : Int) (h : l[j]? = some x) : rd l (j : Int) = x := by
 show l.getD (Int.toNat (j : Int)) 0 = x
 rw [Int.toNat_natCast, List.getD_eq_getElem?_getD, h]
 rfl
theorem r07_from (B : Nat) (hB : B < 4294967296) (e s : Int) (l : List Int) (hl : l.length ≤ 1000) (h0 : ∀ x ∈ l, 0 ≤ x) (a : Nat) (ha : a < 4294967296) : ∀ (d j : Nat), j + d = l.length → (∀ i, i < j → ¬ (a % 4 = 0 ∧ a = B + 4 * i)) →
  whetstoneref07_At.l0 (d + 1) (a : Int) (j : Int) (B : Int) e l s = some (match Bl.wordv B (natL l) a with | none => (0, false) | some v => ((v : Int), true))
 | 0, j, h, hn => by
  have hw : Bl.wordv B (natL l) a = none := by
   unfold Bl.wordv
   split
   ·rename_i hc
    rw [List.getElem?_eq_none]
    simp only [natL, List.length_map]
    exact Classical.byContradiction fun hlt => hn ((a - B) / 4) (by omega) ⟨hc.1, by omega⟩
   ·rfl
  rw [hw, whetstoneref07_At.l0, if_neg (by omega)]
 | d + 1, j, h, hn => by
  have hj : j < l.length := by omega
  have t4 : Int.tmod (a : Int) 4 = ((a % 4 : Nat) : Int) := rfl
  have w1 : wrap64 (a : Int) = (a : Int) := by unfold wrap64; omega
  have w2 : wrap64 (B : Int) = (B : Int) := by unfold wrap64; omega
  have w3 : wrap64 (4 * (j : Int)) = 4 * (j : Int) := by unfold wrap64; omega
  have w4 : wrap64 ((B : Int) + 4 * (j : Int)) = (B : Int) + 4 * (j : Int) := by unfold wrap64; omega
  have w5 : wrap64 ((j : Int) + 1) = ((j + 1 : Nat) : Int) := by unfold wrap64; omega
  rw [whetstoneref07_At.l0, if_pos (by omega), t4, w1, w2, w3, w4, w5]
  clear t4 w1 w2 w3 w4 w5
  by_cases h4 : a % 4 = 0
  ·rw [if_pos (by omega)]
   by_cases he : a = B + 4 * j
   ·rw [if_pos (by omega), if_pos (by omega)]
    have hx := h0 _ (List.getElem_mem hj)
    have hw : Bl.wordv B (natL l) a = some (l[j].toNat) := by
     unfold Bl.wordv
     rw [if_pos ⟨h4, by omega, by omega⟩, show (a - B) / 4 = j by omega]
     simp [natL, List.getElem?_map, List.getElem?_eq_getElem hj]
    rw [hw, rdW l j _ (List.getElem?_eq_getElem hj)]
    simp only [Int.toNat_of_nonneg hx]
   ·rw [if_neg (by omega)]
    exact r07_from B hB e s l hl h0 a ha d (j + 1) (by omega) fun i hi => by
     by_cases hij : i = j
     ·subst hij; exact fun h => he h.2
     ·exact hn i (by omega)
  ·rw [if_neg (by omega)]
   exact r07_from B hB e s l hl h0 a ha d (j + 1) (by omega) fun i hi h => h4 h.1
theorem rAt_all (b e : Int) (l : List Int) (s : Int) (a : Nat) (hb : 0 ≤ b ∧ b < 4294967296) (ha : a < 4294967296) (hl : l.length ≤ 200) (h0 : ∀ x ∈ l, 0 ≤ x ∧ x < 4294967296) :
  whetstoneref08_At.f 300 b e l s (a : Int) = some ((Iq b.toNat (natL l) a).1.1, (Iq b.toNat (natL l) a).1.2.1, (Iq b.toNat (natL l) a).1.2.2.1, (Iq b.toNat (natL l) a).1.2.2.2.1, (Iq b.toNat (natL l) a).1.2.2.2.2, (Iq b.toNat (natL l) a).2) := by
 have h7 : whetstoneref07_At.f 300 b e l s (a : Int) = some (match Bl.wordv b.toNat (natL l) a with | none => (0, false) | some v => ((v : Int), true)) := by
  obtain ⟨B, rfl⟩ := Int.eq_ofNat_of_zero_le hb.1
  have h := r07_from B (by omega) e s l (by omega) (fun x hx => (h0 x hx).1) a ha l.length 0 (by omega) (fun i hi => by omega)
  rw [Int.toNat_natCast]
  exact at_rounds (whetstoneref07_At.mono (B : Int) e l s (a : Int)) (show l.length + 1 ≤ 300 by omega) (by unfold whetstoneref07_At.f; exact h)
 unfold whetstoneref08_At.f
 rw [h7, obs]
 unfold Iq Bl.insv
 cases hw : Bl.wordv b.toNat (natL l) a with
 | none => rfl
 | some w =>
  have hwl : w < 4294967296 := by
   unfold Bl.wordv at hw
   split at hw
   ·have := List.mem_of_getElem? hw
    obtain ⟨x, hx, rfl⟩ := List.mem_map.1 this
    have := h0 x hx
    omega
   ·cases hw
  obtain ⟨z, hz, _⟩ := Decode_tot w hwl
  have hd : decq w = ((z.1, z.2.1, z.2.2.1, z.2.2.2.1, z.2.2.2.2.1), z.2.2.2.2.2) := by
   unfold decq dec6
   rw [hz]
   rfl
  dsimp only
  rw [if_pos rfl, rDecode_eq w hwl 300 (by decide), at_rounds (inst_Decode.mono _) (show 200 ≤ 300 by decide) hz, obs, hd]
  dsimp only
  by_cases hz0 : z.2.2.2.2.2 = 0
  ·rw [if_pos hz0, if_neg (by omega)]
  ·rw [if_neg hz0, if_pos hz0]
   rfl
def okR (b e : Int) (l es : List Int) : Prop := okFind b e l es ∧ b < 4294963201 ∧ ∀ x ∈ l, x < 4294967296
instance (b e : Int) (l es : List Int) : Decidable (okR b e l es) := by unfold okR; infer_instance
def whetstoneref08_Find.f (a0_0 : Int) (a0_1 : Int) (l0_2 : List Int) (a0_3 : Int) (l1 : List Int) : Option (List (S40) × Int) := if okR a0_0 a0_1 l0_2 l1 then some ((findq a0_0 a0_1 l0_2 l1).1.map toB, (findq a0_0 a0_1 l0_2 l1).2) else none
theorem whetstoneref08_Find.calls (a0_0 : Int) (a0_1 : Int) (A0_2 : Option Addr) (c0_2 : Nat) (l0_2 : List Int) (a0_3 : Int) (A1 : Option Addr) (c1 : Nat) (l1 : List Int) (r1 : List (S40)) (r2 : Int) (w : World) (hr0_2 : Kd.C (Kd.int .u32) w A0_2 l0_2.length l0_2) (hc0_2 : l0_2.length ≤ c0_2) (hr1 : Kd.C (Kd.int .u32) w A1 l1.length l1) (hc1 : l1.length ≤ c1) (h : whetstoneref08_Find.f a0_0 a0_1 l0_2 a0_3 l1 = some (r1, r2)) :
  Calls Try.prog 18 #[.agg #[.int .u32 a0_0, .int .u32 a0_1, .slice A0_2 l0_2.length c0_2, .int .i64 a0_3], .slice A1 l1.length c1] w fun e w' => ∃ v0_ : Value, e = .returned (.tuple #[v0_, .int .i64 r2]) ∧ Kd.R k40 40 w' w.heap.size (fun _ => True) v0_ r1 ∧ Below w.heap.size w w' := by
 unfold whetstoneref08_Find.f at h
 split at h
 ·rename_i hs
  have h' := Option.some.inj h
  obtain rfl := congrArg Prod.fst h'
  obtain rfl := congrArg Prod.snd h'
  obtain ⟨⟨hb, he, hl, hes, hw, hee, hfin⟩, hb2, hwl⟩ := hs
  have hE : a0_1 = ((a0_1.toNat : Nat) : Int) := (Int.toNat_of_nonneg he.1).symm
  have hB : a0_0 = ((a0_0.toNat : Nat) : Int) := (Int.toNat_of_nonneg hb.1).symm
  have hat : Bl.rAtC w.heap.size w ((a0_0.toNat : Nat) : Int) ((a0_1.toNat : Nat) : Int) A0_2 l0_2.length c0_2 a0_3 (Iq a0_0.toNat (natL l0_2)) := by
   intro a w' ha hbl
   rw [← hE, ← hB]
   exact whetstoneref08_At.calls 300 a0_0 a0_1 A0_2 c0_2 l0_2 a0_3 (a : Int) _ _ _ _ _ _ w' (Kd.C_below hr0_2 hbl) hc0_2 (rAt_all a0_0 a0_1 l0_2 a0_3 a hb ha hl (fun x hx => ⟨(hw x hx).1, hwl x hx⟩))
  have hesn : ∀ a ∈ natL l1, a < 4294967296 := by intro a ha; obtain ⟨x, hx, rfl⟩ := List.mem_map.1 ha; have := hee x hx; omega
  have hd := Bl.FDone.make (nd := endq) hfin (fun x a => (aftq_facts x a).2) (by omega) hesn
  have hc := Bl.rFind_calls a0_0.toNat a0_1.toNat A0_2 l0_2.length c0_2 a0_3 (Iq a0_0.toNat (natL l0_2)) aftq endq (natL l1) _ w A1 l1.length c1 rAftC
   (fun op rd u v m w => whetstoneref08_Ends.calls 200 op rd u v m _ w (rEnds_all op rd u v m)) hat aftq_facts (RdU_of hr1 (fun x hx => (hee x hx).1)) (by simp [natL]) (by omega) (by omega) hesn (by omega) (by omega) hc0_2
   (fun a ha => by obtain ⟨k, hk, e⟩ := Bl.insv_valid decq a0_0.toNat (natL l0_2) a ha; exact ⟨k, by simpa [natL] using hk, e⟩) hd _ rfl
  rw [← hE, ← hB] at hc
  refine hc.mono ?_
  rintro e w' ⟨v, rfl, hO, hbl⟩
  exact ⟨v, rfl, R_of_B hO, hbl⟩
 ·cases h
end Go.Proofs.Ytekenddkoahjgaa.Q
