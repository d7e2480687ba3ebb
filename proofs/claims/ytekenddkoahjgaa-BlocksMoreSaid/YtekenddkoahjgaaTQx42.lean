import Derived.Test.YtekenddkoahjgaaTQx0
import Derived.Test.YtekenddkoahjgaaTQx30
import Derived.Test.YtekenddkoahjgaaTQx31
import Derived.Test.YtekenddkoahjgaaTQx35
import Derived.Test.YtekenddkoahjgaaTQx41
namespace Go.Proofs.Ytekenddkoahjgaa.Q
open Go.RowKit Go.Proofs.YtekenddkoahjgaaW.PrintWords Go.Proofs.YtekenddkoahjgaaW.PrintLast Go.Proofs.YtekenddkoahjgaaW.PrintMore
attribute [local go_sem] max2_int min2_int max_two min_two max_three min_three max_four min_four   -- for this text's walks alone
attribute [local go_sem] imax_u32 imax_u8 isg_u32 isg_u8
set_option linter.unusedVariables false
set_option linter.unusedSimpArgs false
mutual
def whetstonelaw08_BlocksMore.j0 : Nat → Int → List (S40) → Int → List Int → Bool → Int → Int → List Int → Int → Option (Bool)
 | 0, _, _, _, _, _, _, _, _, _ => none
 | k + 1, x2, x7, x8, x9, x60, x469000, x469001, x469002, x469003 => if x60 = true then (some false) else (if x9.length < 35184372088832 then ((blocks_Find.f x469000 x469001 x469002 x469003 (x9 ++ [x2])).bind fun bt506 => (if x8 = 0 then (whetstonelaw08_BlocksMore.j1 k x7 x8 bt506.1 bt506.2 (bt506.2 != 0)) else (whetstonelaw08_BlocksMore.j1 k x7 x8 bt506.1 bt506.2 true))) else (none))
def whetstonelaw08_BlocksMore.j1 : Nat → List (S40) → Int → List (S40) → Int → Bool → Option (Bool)
 | 0, _, _, _, _, _ => none
 | k + 1, x7, x8, x13, x14, x76 => if x76 = true then (if x8 = 0 then ((whetstonelaw08_fixed.f).bind fun t510 => (some t510)) else (if x14 = 0 then (some false) else ((whetstonelaw08_fixed.f).bind fun t511 => (some t511)))) else (whetstonelaw08_BlocksMore.l0 k x7 x13 0 0 0)
def whetstonelaw08_BlocksMore.l0 : Nat → List (S40) → List (S40) → Int → Int → Int → Option (Bool)
 | 0, _, _, _, _, _ => none
 | k + 1, x7, x13, x15, x16, x17 => if x17 < (x7.length : Int) then (if 0 ≤ x17 then (whetstonelaw08_BlocksMore.l0 k x7 x13 (wrap64 (x15 + ((rd_T40 x7 x17).f1))) x16 (wrap64 (x17 + 1))) else (none)) else (whetstonelaw08_BlocksMore.l1 k x7 x13 x15 x16 0)
def whetstonelaw08_BlocksMore.l1 : Nat → List (S40) → List (S40) → Int → Int → Int → Option (Bool)
 | 0, _, _, _, _, _ => none
 | k + 1, x7, x13, x15, x16, x18 => if x18 < (x13.length : Int) then (if 0 ≤ x18 then (whetstonelaw08_BlocksMore.l1 k x7 x13 x15 (wrap64 (x16 + ((rd_T40 x13 x18).f1))) (wrap64 (x18 + 1))) else (none)) else (if x16 ≥ x15 then (if (x13.length : Int) ≥ (x7.length : Int) then ((whetstonelaw08_fixed.f).bind fun t514 => (some t514)) else (some false)) else (some false))
end
def whetstonelaw08_BlocksMore.f (k : Nat) (a0_0 : Int) (a0_1 : Int) (l0_2 : List Int) (a0_3 : Int) (l1 : List Int) (a2 : Int) : Option (Bool) := (whetstonelaw08_Text.f a0_0 a0_1 l0_2 a0_3).bind fun bt469 => (if 0 ≤ (mn (l1.length : Int) 8) then (if (mn (l1.length : Int) 8) ≤ (l1.length : Int) then ((blocks_Find.f bt469.1 bt469.2.1 bt469.2.2.1 bt469.2.2.2 (l1.take ((mn (l1.length : Int) 8) : Int).toNat)).bind fun bt476 => ((some (([] : List Int) : List Int)).bind fun y480 => (if y480.length + (l1.take ((mn (l1.length : Int) 8) : Int).toNat).length < 35184372088832 then ((some (y480 ++ (l1.take ((mn (l1.length : Int) 8) : Int).toNat) : List Int)).bind fun y483 => (if y483.length < 35184372088832 then ((some (y483 ++ [bt469.2.1] : List Int)).bind fun y486 => ((some (([] : List Int) : List Int)).bind fun y489 => (if y489.length + y486.length < 35184372088832 then ((some (y489 ++ y486 : List Int)).bind fun y492 => (if y492.length + (l1.take ((mn (l1.length : Int) 8) : Int).toNat).length < 35184372088832 then ((blocks_Find.f bt469.1 bt469.2.1 bt469.2.2.1 bt469.2.2.2 (y492 ++ (l1.take ((mn (l1.length : Int) 8) : Int).toNat))).bind fun bt498 => (if bt476.2 = bt498.2 then ((whetstoneref08_Same.f k bt476.1 bt498.1).bind fun t502 => (whetstonelaw08_BlocksMore.j0 k a2 bt476.1 bt476.2 y486 (!t502) bt469.1 bt469.2.1 bt469.2.2.1 bt469.2.2.2)) else (whetstonelaw08_BlocksMore.j0 k a2 bt476.1 bt476.2 y486 true bt469.1 bt469.2.1 bt469.2.2.1 bt469.2.2.2))) else (none))) else (none)))) else (none))) else (none)))) else (none)) else (none))
set_option maxHeartbeats 8000000 in
set_option maxRecDepth 100000 in
theorem whetstonelaw08_BlocksMore.calls (k : Nat) (a0_0 : Int) (a0_1 : Int) (A0_2 : Option Addr) (c0_2 : Nat) (l0_2 : List Int) (a0_3 : Int) (A1 : Option Addr) (c1 : Nat) (l1 : List Int) (a2 : Int) (r : Bool) (w : World) (hr0_2 : Kd.C (Kd.int .u32) w A0_2 l0_2.length l0_2) (hc0_2 : l0_2.length ≤ c0_2) (hr1 : Kd.C (Kd.int .u32) w A1 l1.length l1) (hc1 : l1.length ≤ c1) (h : whetstonelaw08_BlocksMore.f k a0_0 a0_1 l0_2 a0_3 l1 a2 = some r) :
  Calls Try.prog 7 #[.agg #[.int .u32 a0_0, .int .u32 a0_1, .slice A0_2 l0_2.length c0_2, .int .i64 a0_3], .slice A1 l1.length c1, .int .u32 a2] w fun e w' => e = .returned (.bool r) ∧ Below w.heap.size w w' := by
 have hu32 := Try.underlying32
 have HR0_2 := Aside0.mk hr0_2
 have HC0_2 := Aside0.mk hc0_2
 clear hr0_2 hc0_2
 have HR1 := Aside0.mk hr1
 have HC1 := Aside0.mk hc1
 clear hr1 hc1
 have HB := Aside0.mk (Below.refl w.heap.size w)
 have H : ((whetstonelaw08_Text.f a0_0 a0_1 l0_2 a0_3).bind fun bt469 => (if 0 ≤ (mn (l1.length : Int) 8) then (if (mn (l1.length : Int) 8) ≤ (l1.length : Int) then ((blocks_Find.f bt469.1 bt469.2.1 bt469.2.2.1 bt469.2.2.2 (l1.take ((mn (l1.length : Int) 8) : Int).toNat)).bind fun bt476 => ((some (([] : List Int) : List Int)).bind fun y480 => (if y480.length + (l1.take ((mn (l1.length : Int) 8) : Int).toNat).length < 35184372088832 then ((some (y480 ++ (l1.take ((mn (l1.length : Int) 8) : Int).toNat) : List Int)).bind fun y483 => (if y483.length < 35184372088832 then ((some (y483 ++ [bt469.2.1] : List Int)).bind fun y486 => ((some (([] : List Int) : List Int)).bind fun y489 => (if y489.length + y486.length < 35184372088832 then ((some (y489 ++ y486 : List Int)).bind fun y492 => (if y492.length + (l1.take ((mn (l1.length : Int) 8) : Int).toNat).length < 35184372088832 then ((blocks_Find.f bt469.1 bt469.2.1 bt469.2.2.1 bt469.2.2.2 (y492 ++ (l1.take ((mn (l1.length : Int) 8) : Int).toNat))).bind fun bt498 => (if bt476.2 = bt498.2 then ((whetstoneref08_Same.f k bt476.1 bt498.1).bind fun t502 => (whetstonelaw08_BlocksMore.j0 k a2 bt476.1 bt476.2 y486 (!t502) bt469.1 bt469.2.1 bt469.2.2.1 bt469.2.2.2)) else (whetstonelaw08_BlocksMore.j0 k a2 bt476.1 bt476.2 y486 true bt469.1 bt469.2.1 bt469.2.2.1 bt469.2.2.2))) else (none))) else (none)))) else (none))) else (none)))) else (none)) else (none))) = some r := h
 clear h
 replace H := Option.bind_eq_some_iff.mp H
 obtain ⟨⟨t469, t470, t471, t474⟩, A40, H⟩ := H
 replace H : (if 0 ≤ (mn (l1.length : Int) 8) then (if (mn (l1.length : Int) 8) ≤ (l1.length : Int) then ((blocks_Find.f t469 t470 t471 t474 (l1.take ((mn (l1.length : Int) 8) : Int).toNat)).bind fun bt476 => ((some (([] : List Int) : List Int)).bind fun y480 => (if y480.length + (l1.take ((mn (l1.length : Int) 8) : Int).toNat).length < 35184372088832 then ((some (y480 ++ (l1.take ((mn (l1.length : Int) 8) : Int).toNat) : List Int)).bind fun y483 => (if y483.length < 35184372088832 then ((some (y483 ++ [t470] : List Int)).bind fun y486 => ((some (([] : List Int) : List Int)).bind fun y489 => (if y489.length + y486.length < 35184372088832 then ((some (y489 ++ y486 : List Int)).bind fun y492 => (if y492.length + (l1.take ((mn (l1.length : Int) 8) : Int).toNat).length < 35184372088832 then ((blocks_Find.f t469 t470 t471 t474 (y492 ++ (l1.take ((mn (l1.length : Int) 8) : Int).toNat))).bind fun bt498 => (if bt476.2 = bt498.2 then ((whetstoneref08_Same.f k bt476.1 bt498.1).bind fun t502 => (whetstonelaw08_BlocksMore.j0 k a2 bt476.1 bt476.2 y486 (!t502) t469 t470 t471 t474)) else (whetstonelaw08_BlocksMore.j0 k a2 bt476.1 bt476.2 y486 true t469 t470 t471 t474))) else (none))) else (none)))) else (none))) else (none)))) else (none)) else (none)) = some r := H
 have A4 := Aside0.mk A40
 clear A40
 obtain ⟨ji5, hji5⟩ : ∃ j_ : Int, (mn (l1.length : Int) 8) = j_ := ⟨_, rfl⟩
 replace H : (if 0 ≤ (ji5) then (if (ji5) ≤ (l1.length : Int) then ((blocks_Find.f t469 t470 t471 t474 (l1.take ((ji5) : Int).toNat)).bind fun bt476 => ((some (([] : List Int) : List Int)).bind fun y480 => (if y480.length + (l1.take ((ji5) : Int).toNat).length < 35184372088832 then ((some (y480 ++ (l1.take ((ji5) : Int).toNat) : List Int)).bind fun y483 => (if y483.length < 35184372088832 then ((some (y483 ++ [t470] : List Int)).bind fun y486 => ((some (([] : List Int) : List Int)).bind fun y489 => (if y489.length + y486.length < 35184372088832 then ((some (y489 ++ y486 : List Int)).bind fun y492 => (if y492.length + (l1.take ((ji5) : Int).toNat).length < 35184372088832 then ((blocks_Find.f t469 t470 t471 t474 (y492 ++ (l1.take ((ji5) : Int).toNat))).bind fun bt498 => (if bt476.2 = bt498.2 then ((whetstoneref08_Same.f k bt476.1 bt498.1).bind fun t502 => (whetstonelaw08_BlocksMore.j0 k a2 bt476.1 bt476.2 y486 (!t502) t469 t470 t471 t474)) else (whetstonelaw08_BlocksMore.j0 k a2 bt476.1 bt476.2 y486 true t469 t470 t471 t474))) else (none))) else (none)))) else (none))) else (none)))) else (none)) else (none)) = some r := by first | (rw [hji5] at H; exact H) | (simp only [hji5] at H ⊢; exact H)
 (try rw [hji5] at A4)
 (try (have hji5h : ji5 ≤ 8 := by (rw [← hji5]; unfold mn; (repeat' split) <;> omega)))
 (try (have hji5g : ji5 ≤ 64 := by omega))
 (try (have hji5l : 0 ≤ ji5 := by (rw [← hji5]; unfold mn; (repeat' split) <;> omega)))
 (try (have hji5m : 0 ≤ ji5 := by omega))
 have hji5_ : (if 8 < (l1.length : Int) then 8 else (l1.length : Int)) = ji5 := hji5
 by_cases c6 : 0 ≤ (ji5)
 ·rw [if_pos c6] at H
  have c6b0 := eq_true c6
  have c6b1 : decide (0 ≤ (ji5)) = true := decide_eq_true c6
  clear c6
  by_cases c7 : (ji5) ≤ (l1.length : Int)
  ·rw [if_pos c7] at H
   have c7b0 := eq_true c7
   have c7b1 : decide ((ji5) ≤ (l1.length : Int)) = true := decide_eq_true c7
   clear c7
   replace H := Option.bind_eq_some_iff.mp H
   obtain ⟨⟨t476, t479⟩, A80, H⟩ := H
   replace H : ((some (([] : List Int) : List Int)).bind fun y480 => (if y480.length + (l1.take ((ji5) : Int).toNat).length < 35184372088832 then ((some (y480 ++ (l1.take ((ji5) : Int).toNat) : List Int)).bind fun y483 => (if y483.length < 35184372088832 then ((some (y483 ++ [t470] : List Int)).bind fun y486 => ((some (([] : List Int) : List Int)).bind fun y489 => (if y489.length + y486.length < 35184372088832 then ((some (y489 ++ y486 : List Int)).bind fun y492 => (if y492.length + (l1.take ((ji5) : Int).toNat).length < 35184372088832 then ((blocks_Find.f t469 t470 t471 t474 (y492 ++ (l1.take ((ji5) : Int).toNat))).bind fun bt498 => (if t479 = bt498.2 then ((whetstoneref08_Same.f k t476 bt498.1).bind fun t502 => (whetstonelaw08_BlocksMore.j0 k a2 t476 t479 y486 (!t502) t469 t470 t471 t474)) else (whetstonelaw08_BlocksMore.j0 k a2 t476 t479 y486 true t469 t470 t471 t474))) else (none))) else (none)))) else (none))) else (none))) = some r := H
   have A8 := Aside0.mk A80
   clear A80
   obtain ⟨y480, hy480⟩ : ∃ y_ : List Int, y_ = (([] : List Int)) := ⟨_, rfl⟩
   replace H : (if y480.length + (l1.take ((ji5) : Int).toNat).length < 35184372088832 then ((some (y480 ++ (l1.take ((ji5) : Int).toNat) : List Int)).bind fun y483 => (if y483.length < 35184372088832 then ((some (y483 ++ [t470] : List Int)).bind fun y486 => ((some (([] : List Int) : List Int)).bind fun y489 => (if y489.length + y486.length < 35184372088832 then ((some (y489 ++ y486 : List Int)).bind fun y492 => (if y492.length + (l1.take ((ji5) : Int).toNat).length < 35184372088832 then ((blocks_Find.f t469 t470 t471 t474 (y492 ++ (l1.take ((ji5) : Int).toNat))).bind fun bt498 => (if t479 = bt498.2 then ((whetstoneref08_Same.f k t476 bt498.1).bind fun t502 => (whetstonelaw08_BlocksMore.j0 k a2 t476 t479 y486 (!t502) t469 t470 t471 t474)) else (whetstonelaw08_BlocksMore.j0 k a2 t476 t479 y486 true t469 t470 t471 t474))) else (none))) else (none)))) else (none))) else (none)) = some r := by first | (rw [hy480]; with_reducible exact H) | (have H2_ := (Option.bind_some _ _).symm.trans H; rw [hy480]; with_reducible exact H2_) | (have H2_ := (Option.bind_some _ _).symm.trans H; with_reducible exact H2_) | with_reducible exact H | (rw [hy480]; exact H) | exact H
   have Ny480 := Aside0.mk hy480
   clear hy480
   by_cases c9 : y480.length + (l1.take ((ji5) : Int).toNat).length < 35184372088832
   ·rw [if_pos c9] at H
    have LMc9 := Aside0.mk c9
    clear c9
    obtain ⟨y483, hy483⟩ : ∃ y_ : List Int, y_ = (y480 ++ (l1.take ((ji5) : Int).toNat)) := ⟨_, rfl⟩
    replace H : (if y483.length < 35184372088832 then ((some (y483 ++ [t470] : List Int)).bind fun y486 => ((some (([] : List Int) : List Int)).bind fun y489 => (if y489.length + y486.length < 35184372088832 then ((some (y489 ++ y486 : List Int)).bind fun y492 => (if y492.length + (l1.take ((ji5) : Int).toNat).length < 35184372088832 then ((blocks_Find.f t469 t470 t471 t474 (y492 ++ (l1.take ((ji5) : Int).toNat))).bind fun bt498 => (if t479 = bt498.2 then ((whetstoneref08_Same.f k t476 bt498.1).bind fun t502 => (whetstonelaw08_BlocksMore.j0 k a2 t476 t479 y486 (!t502) t469 t470 t471 t474)) else (whetstonelaw08_BlocksMore.j0 k a2 t476 t479 y486 true t469 t470 t471 t474))) else (none))) else (none)))) else (none)) = some r := by first | (rw [hy483]; with_reducible exact H) | (have H2_ := (Option.bind_some _ _).symm.trans H; rw [hy483]; with_reducible exact H2_) | (have H2_ := (Option.bind_some _ _).symm.trans H; with_reducible exact H2_) | with_reducible exact H | (rw [hy483]; exact H) | exact H
    have Ny483 := Aside0.mk hy483
    clear hy483
    by_cases c10 : y483.length < 35184372088832
    ·rw [if_pos c10] at H
     have LMc10 := Aside0.mk c10
     clear c10
     obtain ⟨y486, hy486⟩ : ∃ y_ : List Int, y_ = (y483 ++ [t470]) := ⟨_, rfl⟩
     replace H : ((some (([] : List Int) : List Int)).bind fun y489 => (if y489.length + y486.length < 35184372088832 then ((some (y489 ++ y486 : List Int)).bind fun y492 => (if y492.length + (l1.take ((ji5) : Int).toNat).length < 35184372088832 then ((blocks_Find.f t469 t470 t471 t474 (y492 ++ (l1.take ((ji5) : Int).toNat))).bind fun bt498 => (if t479 = bt498.2 then ((whetstoneref08_Same.f k t476 bt498.1).bind fun t502 => (whetstonelaw08_BlocksMore.j0 k a2 t476 t479 y486 (!t502) t469 t470 t471 t474)) else (whetstonelaw08_BlocksMore.j0 k a2 t476 t479 y486 true t469 t470 t471 t474))) else (none))) else (none))) = some r := by first | (rw [hy486]; with_reducible exact H) | (have H2_ := (Option.bind_some _ _).symm.trans H; rw [hy486]; with_reducible exact H2_) | (have H2_ := (Option.bind_some _ _).symm.trans H; with_reducible exact H2_) | with_reducible exact H | (rw [hy486]; exact H) | exact H
     have Ny486 := Aside0.mk hy486
     clear hy486
     obtain ⟨y489, hy489⟩ : ∃ y_ : List Int, y_ = (([] : List Int)) := ⟨_, rfl⟩
     replace H : (if y489.length + y486.length < 35184372088832 then ((some (y489 ++ y486 : List Int)).bind fun y492 => (if y492.length + (l1.take ((ji5) : Int).toNat).length < 35184372088832 then ((blocks_Find.f t469 t470 t471 t474 (y492 ++ (l1.take ((ji5) : Int).toNat))).bind fun bt498 => (if t479 = bt498.2 then ((whetstoneref08_Same.f k t476 bt498.1).bind fun t502 => (whetstonelaw08_BlocksMore.j0 k a2 t476 t479 y486 (!t502) t469 t470 t471 t474)) else (whetstonelaw08_BlocksMore.j0 k a2 t476 t479 y486 true t469 t470 t471 t474))) else (none))) else (none)) = some r := by first | (rw [hy489]; with_reducible exact H) | (have H2_ := (Option.bind_some _ _).symm.trans H; rw [hy489]; with_reducible exact H2_) | (have H2_ := (Option.bind_some _ _).symm.trans H; with_reducible exact H2_) | with_reducible exact H | (rw [hy489]; exact H) | exact H
     have Ny489 := Aside0.mk hy489
     clear hy489
     by_cases c11 : y489.length + y486.length < 35184372088832
     ·rw [if_pos c11] at H
      have LMc11 := Aside0.mk c11
      clear c11
      obtain ⟨y492, hy492⟩ : ∃ y_ : List Int, y_ = (y489 ++ y486) := ⟨_, rfl⟩
      replace H : (if y492.length + (l1.take ((ji5) : Int).toNat).length < 35184372088832 then ((blocks_Find.f t469 t470 t471 t474 (y492 ++ (l1.take ((ji5) : Int).toNat))).bind fun bt498 => (if t479 = bt498.2 then ((whetstoneref08_Same.f k t476 bt498.1).bind fun t502 => (whetstonelaw08_BlocksMore.j0 k a2 t476 t479 y486 (!t502) t469 t470 t471 t474)) else (whetstonelaw08_BlocksMore.j0 k a2 t476 t479 y486 true t469 t470 t471 t474))) else (none)) = some r := by first | (rw [hy492]; with_reducible exact H) | (have H2_ := (Option.bind_some _ _).symm.trans H; rw [hy492]; with_reducible exact H2_) | (have H2_ := (Option.bind_some _ _).symm.trans H; with_reducible exact H2_) | with_reducible exact H | (rw [hy492]; exact H) | exact H
      have Ny492 := Aside0.mk hy492
      clear hy492
      by_cases c12 : y492.length + (l1.take ((ji5) : Int).toNat).length < 35184372088832
      ·rw [if_pos c12] at H
       have LMc12 := Aside0.mk c12
       clear c12
       obtain ⟨y495, hy495⟩ : ∃ y_ : List Int, y_ = (y492 ++ (l1.take ((ji5) : Int).toNat)) := ⟨_, rfl⟩
       replace H : ((blocks_Find.f t469 t470 t471 t474 y495).bind fun bt498 => (if t479 = bt498.2 then ((whetstoneref08_Same.f k t476 bt498.1).bind fun t502 => (whetstonelaw08_BlocksMore.j0 k a2 t476 t479 y486 (!t502) t469 t470 t471 t474)) else (whetstonelaw08_BlocksMore.j0 k a2 t476 t479 y486 true t469 t470 t471 t474))) = some r := by first | (rw [hy495]; with_reducible exact H) | (have H2_ := (Option.bind_some _ _).symm.trans H; rw [hy495]; with_reducible exact H2_) | (have H2_ := (Option.bind_some _ _).symm.trans H; with_reducible exact H2_) | with_reducible exact H | (rw [hy495]; exact H) | exact H
       have Ny495 := Aside0.mk hy495
       clear hy495
       replace H := Option.bind_eq_some_iff.mp H
       obtain ⟨⟨t498, t501⟩, A130, H⟩ := H
       replace H : (if t479 = t501 then ((whetstoneref08_Same.f k t476 t498).bind fun t502 => (whetstonelaw08_BlocksMore.j0 k a2 t476 t479 y486 (!t502) t469 t470 t471 t474)) else (whetstonelaw08_BlocksMore.j0 k a2 t476 t479 y486 true t469 t470 t471 t474)) = some r := H
       have A13 := Aside0.mk A130
       clear A130
       have HC14 := Aside0.mk H
       clear H
       go_enter Try.func7, Try.ntmps7
       go_upto_region 9 with (first | ((with_reducible refine gate_dst (N := 3) rfl ?_); (try (refine gate_guard (by rfl) ?_; dsimp only)); refine box_event ?hg (N := 3) ?hd (cs := #[.int .u32 a0_0, .int .u32 a0_1, .slice A0_2 l0_2.length c0_2, .int .i64 a0_3]) (t := 32) ?hr ?_; (case hd => rfl); (case hg => rfl); (case hr => first | (go_simp; done) | (go_simp; rfl)); intro gb468 hg w15 hbox hb; have n0_ := Aside0.mk (below_step (by repeat (first | (with_reducible first | exact HB.out | apply below_alloc | apply pw_below_drewN | apply below_drew1) | exact HB.out)) hb); have n1_ := Aside0.mk (hbox); have n2_ := Aside0.mk ((by rw [hg]; exact (below_size (by repeat (first | (with_reducible first | exact HB.out | apply below_alloc | apply pw_below_drewN | apply below_drew1) | exact HB.out))) : w.heap.size ≤ gb468)); have n3_ := Aside0.mk ((by rw [hg]; exact (below_size (by repeat (first | (with_reducible first | exact HB.out | apply below_alloc | apply pw_below_drewN | apply below_drew1) | exact HB.out))) : w.heap.size ≤ gb468)); clear HB; have HB := n0_; have BK468 := n1_; have GW468 := n2_; have GE468 := n3_; clear n0_ n1_ n2_ n3_; clear hb hbox hg; have hcz16_0 : w15.cell? ⟨gb468, 0, none⟩ = some (.int .u32 a0_0) := (blk_cell BK468.out 0).trans rfl; have hcz16_1 : w15.cell? ⟨gb468, 1, none⟩ = some (.int .u32 a0_1) := (blk_cell BK468.out 1).trans rfl; have hcz16_2 : w15.cell? ⟨gb468, 2, none⟩ = some (.slice A0_2 l0_2.length c0_2) := (blk_cell BK468.out 2).trans rfl; have hcz16_3 : w15.cell? ⟨gb468, 3, none⟩ = some (.int .i64 a0_3) := (blk_cell BK468.out 3).trans rfl; have hfz16_0 := blk_frozen BK468.out 0; have hfz16_1 := blk_frozen BK468.out 1; have hfz16_2 := blk_frozen BK468.out 2; have hfz16_3 := blk_frozen BK468.out 3) | ((with_reducible refine gate_callee (f := 17) rfl ?_); refine goesL_ (some 20) rfl rfl Try.func17 (by kernel_rfl) rfl #[.agg #[.int .u32 a0_0, .int .u32 a0_1, .slice A0_2 l0_2.length c0_2, .int .i64 a0_3]] rfl (by (try simp only [List.map_toArray, List.map_cons, List.map_nil]); first | done | rfl | (simp only [List.length_drop, List.length_take]; rfl)) ?_; (with_reducible refine (whetstonelaw08_Text.calls a0_0 a0_1 _ _ l0_2 a0_3 t469 t470 t471 t474 _ ?side1 ?side2 A4.out).mono ?_); (case side1 => repeat (first | exact (Kd.C_below HR0_2.out HB.out) | (with_reducible refine Kd.C_alloc ?_ _) | (with_reducible refine Kd.C_drewN ?_ _) | (with_reducible refine Kd.C_drew ?_))); (case side2 => exact HC0_2.out); rintro e w17 ⟨v472, rfl, ho0, hb⟩; refine ⟨_, rfl, ?_⟩; have n0_ := Aside0.mk (Kd.R_lower ho0 (below_size (by repeat (first | (with_reducible first | exact HB.out | apply below_alloc | apply pw_below_drewN | apply below_drew1 | refine below_set ?_ GE468.out) | exact HB.out)))); have n1_ := Aside0.mk (blk_below (g := gb468) (o := .cells #[.int .u32 a0_0, .int .u32 a0_1, .slice A0_2 l0_2.length c0_2, .int .i64 a0_3] 32 (0, 0)) (by (with_reducible repeat (first | refine blk_drewN ?_ _ | refine blk_drew ?_ | refine blk_alloc ?_ _)); exact BK468.out) hb); have n2_ := Aside0.mk (below_step (by repeat (first | (with_reducible first | exact HB.out | apply below_alloc | apply pw_below_drewN | apply below_drew1 | refine below_set ?_ GE468.out) | exact HB.out)) hb); clear BK468; clear HB; have HO473 := n0_; have BK468 := n1_; have HB := n2_; clear n0_ n1_ n2_; (try clear hb); (try clear hb2); (try clear hk); (try clear hi); (try clear ho0); have hcz18_0 : w17.cell? ⟨gb468, 0, none⟩ = some (.int .u32 a0_0) := (blk_cell BK468.out 0).trans rfl; have hcz18_1 : w17.cell? ⟨gb468, 1, none⟩ = some (.int .u32 a0_1) := (blk_cell BK468.out 1).trans rfl; have hcz18_2 : w17.cell? ⟨gb468, 2, none⟩ = some (.slice A0_2 l0_2.length c0_2) := (blk_cell BK468.out 2).trans rfl; have hcz18_3 : w17.cell? ⟨gb468, 3, none⟩ = some (.int .i64 a0_3) := (blk_cell BK468.out 3).trans rfl; have hfz18_0 := blk_frozen BK468.out 0; have hfz18_1 := blk_frozen BK468.out 1; have hfz18_2 := blk_frozen BK468.out 2; have hfz18_3 := blk_frozen BK468.out 3; obtain ⟨Ao19, co19, eo19⟩ := Kd.R_slice HO473.out; subst eo19; obtain ⟨i020, hi020, _, hsz20, _⟩ := info_parts info24; obtain ⟨hcut20, hA20, hC20⟩ := print_take_of (P := Try.prog) (Value.int .u32) 0 27 24 .i64 Try.underlying27 hi020 hsz20 A1 c1 l1 (ji5) (of_decide_eq_true (by first | (with_reducible assumption) | assumption)) (of_decide_eq_true (by first | (with_reducible assumption) | assumption)) HC1.out; have HR475 := Aside0.mk (Kd.C_of_reads (h1 := fun _ => rfl) (hA20 _ (Kd.reads_of_C HR1.out))); have HC475 := Aside0.mk hC20; clear hA20 hC20 hi020 hsz20) | ((with_reducible refine gate_callee (f := 19) rfl ?_); refine goesL_ (some 29) rfl rfl Try.func19 (by kernel_rfl) rfl #[.agg #[.int .u32 t469, .int .u32 t470, .slice Ao19 t471.length co19, .int .i64 t474], .slice A1 (l1.take ((ji5) : Int).toNat).length c1] rfl (by (try simp only [List.map_toArray, List.map_cons, List.map_nil]); first | done | (rw [show (l1.take ((ji5) : Int).toNat).length = (ji5).toNat from (by rw [List.length_take]; have h_ : ((ji5) : Int) ≤ (l1.length : Int) := of_decide_eq_true (by first | (with_reducible assumption) | assumption); omega)] <;> rfl) | (simp only [hji5]; rfl) | rfl | (simp only [List.length_drop, List.length_take]; rfl)) ?_; (with_reducible refine (blocks_Find.calls t469 t470 _ _ t471 t474 _ _ (l1.take ((ji5) : Int).toNat) t476 t479 _ ?side1 ?side2 ?side3 ?side4 A8.out).mono ?_); (case side1 => refine (Kd.R_reads' (e := 24) (base := w.heap.size) (ok := fun k_ => True) (n := t471.length) (c := co19) ?_).2.2; exact (by (with_reducible repeat (first | apply Kd.R_alloc | apply Kd.R_drewN | apply Kd.R_drew)); exact (Kd.R_mono (Kd.R_far (p := ⟨gb468, 3, none⟩) (Kd.R_far (p := ⟨gb468, 2, none⟩) (Kd.R_far (p := ⟨gb468, 1, none⟩) (Kd.R_far (p := ⟨gb468, 0, none⟩) (Kd.R_types HO473.out BK468.out (by decide)) (fun _ hk => hk.2) (.int .u32 t469)) (fun _ hk => hk.2) (.int .u32 t470)) (fun _ hk => hk.2) (.slice Ao19 t471.length co19)) (fun _ hk => hk.2) (.int .i64 t474)) (fun _ h_ => h_.1)))); (case side2 => exact (Kd.R_reads' HO473.out).2.1); (case side3 => exact Kd.C_below HR475.out (by repeat (first | (with_reducible first | exact HB.out | apply below_alloc | apply pw_below_drewN | apply below_drew1 | refine below_set ?_ GE468.out) | exact HB.out))); (case side4 => exact HC475.out); rintro e w21 ⟨v477, rfl, ho0, hb⟩; refine ⟨_, rfl, ?_⟩; have n0_ := Aside0.mk (Kd.R_below (by (with_reducible repeat (first | apply Kd.R_alloc | apply Kd.R_drewN | apply Kd.R_drew)); exact (Kd.R_mono (Kd.R_far (p := ⟨gb468, 3, none⟩) (Kd.R_far (p := ⟨gb468, 2, none⟩) (Kd.R_far (p := ⟨gb468, 1, none⟩) (Kd.R_far (p := ⟨gb468, 0, none⟩) (Kd.R_types HO473.out BK468.out (by decide)) (fun _ hk => hk.2) (.int .u32 t469)) (fun _ hk => hk.2) (.int .u32 t470)) (fun _ hk => hk.2) (.slice Ao19 t471.length co19)) (fun _ hk => hk.2) (.int .i64 t474)) (fun _ h_ => h_.1))) hb); have n1_ := Aside0.mk (Kd.R_lower ho0 (below_size (by repeat (first | (with_reducible first | exact HB.out | apply below_alloc | apply pw_below_drewN | apply below_drew1 | refine below_set ?_ GE468.out) | exact HB.out)))); have n2_ := Aside0.mk (blk_below (g := gb468) (o := .cells #[.int .u32 t469, .int .u32 t470, .slice Ao19 t471.length co19, .int .i64 t474] 32 (0, 0)) (by (with_reducible repeat (first | refine blk_drewN ?_ _ | refine blk_drew ?_ | refine blk_alloc ?_ _)); refine blk_put (cs := #[.int .u32 t469, .int .u32 t470, .slice Ao19 t471.length co19, .int .i64 a0_3]) ?_ 3 _ rfl; (with_reducible repeat (first | refine blk_drewN ?_ _ | refine blk_drew ?_ | refine blk_alloc ?_ _)); refine blk_put (cs := #[.int .u32 t469, .int .u32 t470, .slice A0_2 l0_2.length c0_2, .int .i64 a0_3]) ?_ 2 _ rfl; (with_reducible repeat (first | refine blk_drewN ?_ _ | refine blk_drew ?_ | refine blk_alloc ?_ _)); refine blk_put (cs := #[.int .u32 t469, .int .u32 a0_1, .slice A0_2 l0_2.length c0_2, .int .i64 a0_3]) ?_ 1 _ rfl; (with_reducible repeat (first | refine blk_drewN ?_ _ | refine blk_drew ?_ | refine blk_alloc ?_ _)); refine blk_put (cs := #[.int .u32 a0_0, .int .u32 a0_1, .slice A0_2 l0_2.length c0_2, .int .i64 a0_3]) ?_ 0 _ rfl; (with_reducible repeat (first | refine blk_drewN ?_ _ | refine blk_drew ?_ | refine blk_alloc ?_ _)); exact BK468.out) hb); have n3_ := Aside0.mk (below_step (by repeat (first | (with_reducible first | exact HB.out | apply below_alloc | apply pw_below_drewN | apply below_drew1 | refine below_set ?_ GE468.out) | exact HB.out)) hb); clear HO473; clear BK468; clear HB; have HO473 := n0_; have HO478 := n1_; have BK468 := n2_; have HB := n3_; clear n0_ n1_ n2_ n3_; (try clear hb); (try clear hb2); (try clear hk); (try clear hi); (try clear ho0)) | ((with_reducible refine gate_dst (N := 32) rfl ?_); (try (refine gate_guard (by rfl) ?_; dsimp only)); refine Kd.R_lit (Kd.int .u32) _ 24 ?hg (N := 32) ?hd (xs := ([] : List Int)) (inner := []) (ok := fun _ => True) (okp := fun _ => True) ?hr ?hp (fun _ hk => hk) trivial (Below.refl _ _) (Nat.le_refl _) (by simp) ?_; (case hd => rfl); (case hg => rfl); (case hr => first | (go_simp; done) | (go_simp; rfl)); (case hp => exact (Reps.none _ _)); intro v481 w22 ho23 hb hg_ hnew_; clear hg_ hnew_; (first | rw [← Ny480.out] at ho23 | (simp only [Int.reduceToNat] at ho23; rw [← Ny480.out] at ho23)); have n0_ := Aside0.mk (Kd.R_elder' (by (with_reducible repeat (first | apply Kd.R_alloc | apply Kd.R_drewN | apply Kd.R_drew)); exact HO473.out) (Kd.R_base ho23) hb); have n1_ := Aside0.mk (Kd.R_below (by (with_reducible repeat (first | apply Kd.R_alloc | apply Kd.R_drewN | apply Kd.R_drew)); exact HO478.out) hb); have n2_ := Aside0.mk (Kd.R_lower (Kd.R_new' ho23 (Kd.R_lt (by (with_reducible repeat (first | apply Kd.R_alloc | apply Kd.R_drewN | apply Kd.R_drew)); exact HO473.out))) (below_size (by repeat (first | (with_reducible first | exact HB.out | apply below_alloc | apply pw_below_drewN | apply below_drew1 | refine below_set ?_ GE468.out) | exact HB.out)))); have n3_ := Aside0.mk (blk_below (g := gb468) (o := .cells #[.int .u32 t469, .int .u32 t470, .slice Ao19 t471.length co19, .int .i64 t474] 32 (0, 0)) (by (with_reducible repeat (first | refine blk_drewN ?_ _ | refine blk_drew ?_ | refine blk_alloc ?_ _)); exact BK468.out) hb); have n4_ := Aside0.mk (below_step (by repeat (first | (with_reducible first | exact HB.out | apply below_alloc | apply pw_below_drewN | apply below_drew1 | refine below_set ?_ GE468.out) | exact HB.out)) hb); clear HO473; clear HO478; clear BK468; clear HB; have HO473 := n0_; have HO478 := n1_; have HO482 := n2_; have BK468 := n3_; have HB := n4_; clear n0_ n1_ n2_ n3_ n4_; clear hb ho23) | ((with_reducible refine gate_builtin (b := .append) (xs := #[.tmp 32, .tmp 33]) rfl ?_); (try (refine gate_guard (by rfl) ?_; dsimp only)); at_builtin; refine Kd.R_append_rows (Kd.int .u32) (w0 := w) w.heap.size rfl (.tmp 32) (.tmp 33) 27 24 (.int .u32 0) 4 rfl Try.underlying27 info24 rfl (by decide) (by omega) v481 y480 (l1.take ((ji5) : Int).toNat) _ _ _ (fun k_ => some k_ ≠ (.slice Ao19 t471.length co19 : Value).ownBlock) (fun _ => False) rfl rfl ?aO ?aR (fun _ _ h => h) (fun _ h => h.elim) ?aF ?aB ?aS ?aL ?_; (case aR => first | (have hn_ := (show (l1.take ((ji5) : Int).toNat).length = (ji5).toNat from (by rw [List.length_take]; have h_ : ((ji5) : Int) ≤ (l1.length : Int) := of_decide_eq_true (by first | (with_reducible assumption) | assumption); omega)); have hc_ := (Kd.C_below HR475.out HB.out); rw [hn_] at hc_; repeat (first | exact hc_ | (with_reducible refine Kd.C_alloc ?_ _) | (with_reducible refine Kd.C_drewN ?_ _) | (with_reducible refine Kd.C_drew ?_))) | (rw [← show (l1.take ((ji5) : Int).toNat).length = (ji5).toNat from (by rw [List.length_take]; have h_ : ((ji5) : Int) ≤ (l1.length : Int) := of_decide_eq_true (by first | (with_reducible assumption) | assumption); omega)]; repeat (first | exact (Kd.C_below HR475.out HB.out) | (with_reducible refine Kd.C_alloc ?_ _) | (with_reducible refine Kd.C_drewN ?_ _) | (with_reducible refine Kd.C_drew ?_))) | (repeat (first | exact (Kd.C_below HR475.out HB.out) | (with_reducible refine Kd.C_alloc ?_ _) | (with_reducible refine Kd.C_drewN ?_ _) | (with_reducible refine Kd.C_drew ?_)))); (case aB => exact (by repeat (first | (with_reducible first | exact HB.out | apply below_alloc | apply pw_below_drewN | apply below_drew1 | refine below_set ?_ GE468.out) | exact HB.out))); (case aF => exact (fun k_ hk => Kd.fresh' (Kd.R_lt (by (with_reducible repeat (first | apply Kd.R_alloc | apply Kd.R_drewN | apply Kd.R_drew)); exact HO473.out)) k_ hk)); (case aO => exact (by (with_reducible repeat (first | apply Kd.R_alloc | apply Kd.R_drewN | apply Kd.R_drew)); exact Kd.R_mono HO482.out (fun _ hk => hk.2))); (case aS => exact (below_size (by repeat (first | (with_reducible first | exact HB.out | apply below_alloc | apply pw_below_drewN | apply below_drew1 | refine below_set ?_ GE468.out) | exact HB.out)))); (case aL => have := LMc9.out; have hlx_ := (show (l1.take ((ji5) : Int).toNat).length = (ji5).toNat from (by rw [List.length_take]; have h_ : ((ji5) : Int) ≤ (l1.length : Int) := of_decide_eq_true (by first | (with_reducible assumption) | assumption); omega)); omega); intro v484 w24 ho hb hg hat; rw [← Ny483.out] at ho; have n0_ := Aside0.mk (blk_grown (g := gb468) (o := .cells #[.int .u32 t469, .int .u32 t470, .slice Ao19 t471.length co19, .int .i64 t474] 32 (0, 0)) (by (with_reducible repeat (first | refine blk_drewN ?_ _ | refine blk_drew ?_ | refine blk_alloc ?_ _)); exact BK468.out) hg (Kd.R_ne HO482.out BK468.out (by decide))); have n1_ := Aside0.mk (Kd.R_after (ok := (fun _ => True)) (by (with_reducible repeat (first | apply Kd.R_alloc | apply Kd.R_drewN | apply Kd.R_drew)); exact HO473.out) hg hat); have n2_ := Aside0.mk (Kd.R_over' (by (with_reducible repeat (first | apply Kd.R_alloc | apply Kd.R_drewN | apply Kd.R_drew)); exact HO478.out) (Kd.R_typed (by (with_reducible repeat (first | apply Kd.R_alloc | apply Kd.R_drewN | apply Kd.R_drew)); exact HO482.out)) (by decide) hg); have n3_ := Aside0.mk (hb); have n4_ := Aside0.mk (ho); clear BK468; clear HO473; clear HO478; clear HB; clear HO482; have BK468 := n0_; have HO473 := n1_; have HO478 := n2_; have HB := n3_; have HO485 := n4_; clear n0_ n1_ n2_ n3_ n4_; clear ho hb hg hat; have hcz25_0 : w24.cell? ⟨gb468, 0, none⟩ = some (.int .u32 t469) := (blk_cell BK468.out 0).trans rfl; have hcz25_1 : w24.cell? ⟨gb468, 1, none⟩ = some (.int .u32 t470) := (blk_cell BK468.out 1).trans rfl; have hcz25_2 : w24.cell? ⟨gb468, 2, none⟩ = some (.slice Ao19 t471.length co19) := (blk_cell BK468.out 2).trans rfl; have hcz25_3 : w24.cell? ⟨gb468, 3, none⟩ = some (.int .i64 t474) := (blk_cell BK468.out 3).trans rfl; have hfz25_0 := blk_frozen BK468.out 0; have hfz25_1 := blk_frozen BK468.out 1; have hfz25_2 := blk_frozen BK468.out 2; have hfz25_3 := blk_frozen BK468.out 3) | ((with_reducible refine gate_builtin (b := .append) (xs := #[.tmp 35, .tmp 38]) rfl ?_); (try (refine gate_guard (by rfl) ?_; dsimp only)); at_builtin; refine Kd.R_append (Kd.int .u32) (w0 := w) w.heap.size rfl (.tmp 35) (.tmp 38) 27 24 (.int .u32 0) 4 rfl Try.underlying27 info24 rfl (by decide) (by omega) v484 y483 t470 [.int .u32 t470] (fun k_ => some k_ ≠ (.slice Ao19 t471.length co19 : Value).ownBlock) (fun _ => False) rfl rfl ?aP (fun _ hk => hk.elim) ?aF ?aO ?aB ?aS ?aL ?_; (case aP => exact rfl); (case aB => exact (by repeat (first | (with_reducible first | exact HB.out | apply below_alloc | apply pw_below_drewN | apply below_drew1 | refine below_set ?_ GE468.out) | exact HB.out))); (case aF => exact (fun k_ hk => Kd.fresh' (Kd.R_lt (by (with_reducible repeat (first | apply Kd.R_alloc | apply Kd.R_drewN | apply Kd.R_drew)); exact HO473.out)) k_ hk)); (case aO => exact (by (with_reducible repeat (first | apply Kd.R_alloc | apply Kd.R_drewN | apply Kd.R_drew)); exact HO485.out)); (case aS => exact (below_size (by repeat (first | (with_reducible first | exact HB.out | apply below_alloc | apply pw_below_drewN | apply below_drew1 | refine below_set ?_ GE468.out) | exact HB.out)))); (case aL => have := LMc10.out; omega); intro v487 w26 ho hb hg hat; rw [← Ny486.out] at ho; have n0_ := Aside0.mk (blk_grown (g := gb468) (o := .cells #[.int .u32 t469, .int .u32 t470, .slice Ao19 t471.length co19, .int .i64 t474] 32 (0, 0)) (by (with_reducible repeat (first | refine blk_drewN ?_ _ | refine blk_drew ?_ | refine blk_alloc ?_ _)); exact BK468.out) hg (Kd.R_ne HO485.out BK468.out (by decide))); have n1_ := Aside0.mk (Kd.R_after (ok := (fun _ => True)) (by (with_reducible repeat (first | apply Kd.R_alloc | apply Kd.R_drewN | apply Kd.R_drew)); exact HO473.out) hg hat); have n2_ := Aside0.mk (Kd.R_over' (by (with_reducible repeat (first | apply Kd.R_alloc | apply Kd.R_drewN | apply Kd.R_drew)); exact HO478.out) (Kd.R_typed (by (with_reducible repeat (first | apply Kd.R_alloc | apply Kd.R_drewN | apply Kd.R_drew)); exact HO485.out)) (by decide) hg); have n3_ := Aside0.mk (hb); have n4_ := Aside0.mk (ho); clear BK468; clear HO473; clear HO478; clear HB; clear HO485; have BK468 := n0_; have HO473 := n1_; have HO478 := n2_; have HB := n3_; have HO488 := n4_; clear n0_ n1_ n2_ n3_ n4_; clear ho hb hg hat) | ((with_reducible refine gate_dst (N := 40) rfl ?_); (try (refine gate_guard (by rfl) ?_; dsimp only)); refine Kd.R_lit (Kd.int .u32) _ 24 ?hg (N := 40) ?hd (xs := ([] : List Int)) (inner := []) (ok := fun _ => True) (okp := fun _ => True) ?hr ?hp (fun _ hk => hk) trivial (Below.refl _ _) (Nat.le_refl _) (by simp) ?_; (case hd => rfl); (case hg => rfl); (case hr => first | (go_simp; done) | (go_simp; rfl)); (case hp => exact (Reps.none _ _)); intro v490 w27 ho28 hb hg_ hnew_; clear hg_ hnew_; (first | rw [← Ny489.out] at ho28 | (simp only [Int.reduceToNat] at ho28; rw [← Ny489.out] at ho28)); have n0_ := Aside0.mk (Kd.R_elder' (by (with_reducible repeat (first | apply Kd.R_alloc | apply Kd.R_drewN | apply Kd.R_drew)); exact HO473.out) (Kd.R_base ho28) hb); have n1_ := Aside0.mk (Kd.R_below (by (with_reducible repeat (first | apply Kd.R_alloc | apply Kd.R_drewN | apply Kd.R_drew)); exact HO478.out) hb); have n2_ := Aside0.mk (Kd.R_elder' (by (with_reducible repeat (first | apply Kd.R_alloc | apply Kd.R_drewN | apply Kd.R_drew)); exact HO488.out) (Kd.R_base ho28) hb); have n3_ := Aside0.mk (Kd.R_lower (Kd.R_new' (Kd.R_new' ho28 (Kd.R_lt (by (with_reducible repeat (first | apply Kd.R_alloc | apply Kd.R_drewN | apply Kd.R_drew)); exact HO473.out))) (Kd.R_lt (by (with_reducible repeat (first | apply Kd.R_alloc | apply Kd.R_drewN | apply Kd.R_drew)); exact HO488.out))) (below_size (by repeat (first | (with_reducible first | exact HB.out | apply below_alloc | apply pw_below_drewN | apply below_drew1 | refine below_set ?_ GE468.out) | exact HB.out)))); have n4_ := Aside0.mk (blk_below (g := gb468) (o := .cells #[.int .u32 t469, .int .u32 t470, .slice Ao19 t471.length co19, .int .i64 t474] 32 (0, 0)) (by (with_reducible repeat (first | refine blk_drewN ?_ _ | refine blk_drew ?_ | refine blk_alloc ?_ _)); exact BK468.out) hb); have n5_ := Aside0.mk (below_step (by repeat (first | (with_reducible first | exact HB.out | apply below_alloc | apply pw_below_drewN | apply below_drew1 | refine below_set ?_ GE468.out) | exact HB.out)) hb); clear HO473; clear HO478; clear HO488; clear BK468; clear HB; have HO473 := n0_; have HO478 := n1_; have HO488 := n2_; have HO491 := n3_; have BK468 := n4_; have HB := n5_; clear n0_ n1_ n2_ n3_ n4_ n5_; clear hb ho28; obtain ⟨Ao30, co30, eo30⟩ := Kd.R_slice HO488.out; subst eo30) | ((with_reducible refine gate_builtin (b := .append) (xs := #[.tmp 40, .tmp 41]) rfl ?_); (try (refine gate_guard (by rfl) ?_; dsimp only)); at_builtin; refine Kd.R_append_rows (Kd.int .u32) (w0 := w) w.heap.size rfl (.tmp 40) (.tmp 41) 27 24 (.int .u32 0) 4 rfl Try.underlying27 info24 rfl (by decide) (by omega) v490 y489 y486 _ _ _ (fun k_ => some k_ ≠ (.slice Ao19 t471.length co19 : Value).ownBlock ∧ some k_ ≠ (.slice Ao30 y486.length co30 : Value).ownBlock) (fun _ => False) rfl rfl ?aO ?aR (fun _ _ h => h) (fun _ h => h.elim) ?aF ?aB ?aS ?aL ?_; (case aR => repeat (first | exact (Kd.R_reads' HO488.out).2.2 | (with_reducible refine Kd.C_alloc ?_ _) | (with_reducible refine Kd.C_drewN ?_ _) | (with_reducible refine Kd.C_drew ?_))); (case aB => exact (by repeat (first | (with_reducible first | exact HB.out | apply below_alloc | apply pw_below_drewN | apply below_drew1 | refine below_set ?_ GE468.out) | exact HB.out))); (case aF => exact (fun k_ hk => ⟨Kd.fresh' (Kd.R_lt (by (with_reducible repeat (first | apply Kd.R_alloc | apply Kd.R_drewN | apply Kd.R_drew)); exact HO473.out)) k_ hk, Kd.fresh' (Kd.R_lt (by (with_reducible repeat (first | apply Kd.R_alloc | apply Kd.R_drewN | apply Kd.R_drew)); exact HO488.out)) k_ hk⟩)); (case aO => exact (by (with_reducible repeat (first | apply Kd.R_alloc | apply Kd.R_drewN | apply Kd.R_drew)); exact Kd.R_mono HO491.out (fun _ hk => ⟨hk.1.2, hk.2⟩))); (case aS => exact (below_size (by repeat (first | (with_reducible first | exact HB.out | apply below_alloc | apply pw_below_drewN | apply below_drew1 | refine below_set ?_ GE468.out) | exact HB.out)))); (case aL => have := LMc11.out; omega); intro v493 w29 ho hb hg hat; rw [← Ny492.out] at ho; have n0_ := Aside0.mk (blk_grown (g := gb468) (o := .cells #[.int .u32 t469, .int .u32 t470, .slice Ao19 t471.length co19, .int .i64 t474] 32 (0, 0)) (by (with_reducible repeat (first | refine blk_drewN ?_ _ | refine blk_drew ?_ | refine blk_alloc ?_ _)); exact BK468.out) hg (Kd.R_ne HO491.out BK468.out (by decide))); have n1_ := Aside0.mk (Kd.R_after (ok := (fun k_ => some k_ ≠ (.slice Ao30 y486.length co30 : Value).ownBlock)) (by (with_reducible repeat (first | apply Kd.R_alloc | apply Kd.R_drewN | apply Kd.R_drew)); exact Kd.R_mono HO473.out (fun _ hk => ⟨hk.1.2, hk.2⟩)) hg hat); have n2_ := Aside0.mk (Kd.R_over' (by (with_reducible repeat (first | apply Kd.R_alloc | apply Kd.R_drewN | apply Kd.R_drew)); exact HO478.out) (Kd.R_typed (by (with_reducible repeat (first | apply Kd.R_alloc | apply Kd.R_drewN | apply Kd.R_drew)); exact HO491.out)) (by decide) hg); have n3_ := Aside0.mk (Kd.R_after (ok := (fun k_ => some k_ ≠ (.slice Ao19 t471.length co19 : Value).ownBlock)) (by (with_reducible repeat (first | apply Kd.R_alloc | apply Kd.R_drewN | apply Kd.R_drew)); exact HO488.out) hg hat); have n4_ := Aside0.mk (hb); have n5_ := Aside0.mk (ho); clear BK468; clear HO473; clear HO478; clear HO488; clear HB; clear HO491; have BK468 := n0_; have HO473 := n1_; have HO478 := n2_; have HO488 := n3_; have HB := n4_; have HO494 := n5_; clear n0_ n1_ n2_ n3_ n4_ n5_; clear ho hb hg hat) | ((with_reducible refine gate_builtin (b := .append) (xs := #[.tmp 43, .tmp 44]) rfl ?_); (try (refine gate_guard (by rfl) ?_; dsimp only)); at_builtin; refine Kd.R_append_rows (Kd.int .u32) (w0 := w) w.heap.size rfl (.tmp 43) (.tmp 44) 27 24 (.int .u32 0) 4 rfl Try.underlying27 info24 rfl (by decide) (by omega) v493 y492 (l1.take ((ji5) : Int).toNat) _ _ _ (fun k_ => some k_ ≠ (.slice Ao19 t471.length co19 : Value).ownBlock ∧ some k_ ≠ (.slice Ao30 y486.length co30 : Value).ownBlock) (fun _ => False) rfl rfl ?aO ?aR (fun _ _ h => h) (fun _ h => h.elim) ?aF ?aB ?aS ?aL ?_; (case aR => first | (have hn_ := (show (l1.take ((ji5) : Int).toNat).length = (ji5).toNat from (by rw [List.length_take]; have h_ : ((ji5) : Int) ≤ (l1.length : Int) := of_decide_eq_true (by first | (with_reducible assumption) | assumption); omega)); have hc_ := (Kd.C_below HR475.out HB.out); rw [hn_] at hc_; repeat (first | exact hc_ | (with_reducible refine Kd.C_alloc ?_ _) | (with_reducible refine Kd.C_drewN ?_ _) | (with_reducible refine Kd.C_drew ?_))) | (rw [← show (l1.take ((ji5) : Int).toNat).length = (ji5).toNat from (by rw [List.length_take]; have h_ : ((ji5) : Int) ≤ (l1.length : Int) := of_decide_eq_true (by first | (with_reducible assumption) | assumption); omega)]; repeat (first | exact (Kd.C_below HR475.out HB.out) | (with_reducible refine Kd.C_alloc ?_ _) | (with_reducible refine Kd.C_drewN ?_ _) | (with_reducible refine Kd.C_drew ?_))) | (repeat (first | exact (Kd.C_below HR475.out HB.out) | (with_reducible refine Kd.C_alloc ?_ _) | (with_reducible refine Kd.C_drewN ?_ _) | (with_reducible refine Kd.C_drew ?_)))); (case aB => exact (by repeat (first | (with_reducible first | exact HB.out | apply below_alloc | apply pw_below_drewN | apply below_drew1 | refine below_set ?_ GE468.out) | exact HB.out))); (case aF => exact (fun k_ hk => ⟨Kd.fresh' (Kd.R_lt (by (with_reducible repeat (first | apply Kd.R_alloc | apply Kd.R_drewN | apply Kd.R_drew)); exact HO473.out)) k_ hk, Kd.fresh' (Kd.R_lt (by (with_reducible repeat (first | apply Kd.R_alloc | apply Kd.R_drewN | apply Kd.R_drew)); exact HO488.out)) k_ hk⟩)); (case aO => exact (by (with_reducible repeat (first | apply Kd.R_alloc | apply Kd.R_drewN | apply Kd.R_drew)); exact HO494.out)); (case aS => exact (below_size (by repeat (first | (with_reducible first | exact HB.out | apply below_alloc | apply pw_below_drewN | apply below_drew1 | refine below_set ?_ GE468.out) | exact HB.out)))); (case aL => have := LMc12.out; have hlx_ := (show (l1.take ((ji5) : Int).toNat).length = (ji5).toNat from (by rw [List.length_take]; have h_ : ((ji5) : Int) ≤ (l1.length : Int) := of_decide_eq_true (by first | (with_reducible assumption) | assumption); omega)); omega); intro v496 w31 ho hb hg hat; rw [← Ny495.out] at ho; have n0_ := Aside0.mk (blk_grown (g := gb468) (o := .cells #[.int .u32 t469, .int .u32 t470, .slice Ao19 t471.length co19, .int .i64 t474] 32 (0, 0)) (by (with_reducible repeat (first | refine blk_drewN ?_ _ | refine blk_drew ?_ | refine blk_alloc ?_ _)); exact BK468.out) hg (Kd.R_ne HO494.out BK468.out (by decide))); have n1_ := Aside0.mk (Kd.R_after (ok := (fun k_ => some k_ ≠ (.slice Ao30 y486.length co30 : Value).ownBlock)) (by (with_reducible repeat (first | apply Kd.R_alloc | apply Kd.R_drewN | apply Kd.R_drew)); exact HO473.out) hg hat); have n2_ := Aside0.mk (Kd.R_over' (by (with_reducible repeat (first | apply Kd.R_alloc | apply Kd.R_drewN | apply Kd.R_drew)); exact HO478.out) (Kd.R_typed (by (with_reducible repeat (first | apply Kd.R_alloc | apply Kd.R_drewN | apply Kd.R_drew)); exact HO494.out)) (by decide) hg); have n3_ := Aside0.mk (Kd.R_after (ok := (fun k_ => some k_ ≠ (.slice Ao19 t471.length co19 : Value).ownBlock)) (by (with_reducible repeat (first | apply Kd.R_alloc | apply Kd.R_drewN | apply Kd.R_drew)); exact HO488.out) hg hat); have n4_ := Aside0.mk (hb); have n5_ := Aside0.mk (ho); clear BK468; clear HO473; clear HO478; clear HO488; clear HB; clear HO494; have BK468 := n0_; have HO473 := n1_; have HO478 := n2_; have HO488 := n3_; have HB := n4_; have HO497 := n5_; clear n0_ n1_ n2_ n3_ n4_ n5_; clear ho hb hg hat; have hcz32_0 : w31.cell? ⟨gb468, 0, none⟩ = some (.int .u32 t469) := (blk_cell BK468.out 0).trans rfl; have hcz32_1 : w31.cell? ⟨gb468, 1, none⟩ = some (.int .u32 t470) := (blk_cell BK468.out 1).trans rfl; have hcz32_2 : w31.cell? ⟨gb468, 2, none⟩ = some (.slice Ao19 t471.length co19) := (blk_cell BK468.out 2).trans rfl; have hcz32_3 : w31.cell? ⟨gb468, 3, none⟩ = some (.int .i64 t474) := (blk_cell BK468.out 3).trans rfl; have hfz32_0 := blk_frozen BK468.out 0; have hfz32_1 := blk_frozen BK468.out 1; have hfz32_2 := blk_frozen BK468.out 2; have hfz32_3 := blk_frozen BK468.out 3; obtain ⟨Ao33, co33, eo33⟩ := Kd.R_slice HO497.out; subst eo33) | ((with_reducible refine gate_callee (f := 19) rfl ?_); refine goesL_ (some 49) rfl rfl Try.func19 (by kernel_rfl) rfl #[.agg #[.int .u32 t469, .int .u32 t470, .slice Ao19 t471.length co19, .int .i64 t474], .slice Ao33 y495.length co33] rfl (by (try simp only [List.map_toArray, List.map_cons, List.map_nil]); first | done | rfl | (simp only [List.length_drop, List.length_take]; rfl)) ?_; (with_reducible refine (blocks_Find.calls t469 t470 _ _ t471 t474 _ _ y495 t498 t501 _ ?side1 ?side2 ?side3 ?side4 A13.out).mono ?_); (case side1 => repeat (first | exact (Kd.R_reads' HO473.out).2.2 | (with_reducible refine Kd.C_alloc ?_ _) | (with_reducible refine Kd.C_drewN ?_ _) | (with_reducible refine Kd.C_drew ?_))); (case side2 => exact (Kd.R_reads' HO473.out).2.1); (case side3 => repeat (first | exact (Kd.R_reads' HO497.out).2.2 | (with_reducible refine Kd.C_alloc ?_ _) | (with_reducible refine Kd.C_drewN ?_ _) | (with_reducible refine Kd.C_drew ?_))); (case side4 => exact (Kd.R_reads' HO497.out).2.1); rintro e w34 ⟨v499, rfl, ho0, hb⟩; refine ⟨_, rfl, ?_⟩; have n0_ := Aside0.mk (Kd.R_below (by (with_reducible repeat (first | apply Kd.R_alloc | apply Kd.R_drewN | apply Kd.R_drew)); exact HO473.out) hb); have n1_ := Aside0.mk (Kd.R_elder' (by (with_reducible repeat (first | apply Kd.R_alloc | apply Kd.R_drewN | apply Kd.R_drew)); exact HO478.out) (Kd.R_base ho0) hb); have n2_ := Aside0.mk (Kd.R_below (by (with_reducible repeat (first | apply Kd.R_alloc | apply Kd.R_drewN | apply Kd.R_drew)); exact HO488.out) hb); have n3_ := Aside0.mk (Kd.R_below (by (with_reducible repeat (first | apply Kd.R_alloc | apply Kd.R_drewN | apply Kd.R_drew)); exact HO497.out) hb); have n4_ := Aside0.mk (Kd.R_lower (Kd.R_new' ho0 (Kd.R_lt (by (with_reducible repeat (first | apply Kd.R_alloc | apply Kd.R_drewN | apply Kd.R_drew)); exact HO478.out))) (below_size (by repeat (first | (with_reducible first | exact HB.out | apply below_alloc | apply pw_below_drewN | apply below_drew1 | refine below_set ?_ GE468.out) | exact HB.out)))); have n5_ := Aside0.mk (blk_below (g := gb468) (o := .cells #[.int .u32 t469, .int .u32 t470, .slice Ao19 t471.length co19, .int .i64 t474] 32 (0, 0)) (by (with_reducible repeat (first | refine blk_drewN ?_ _ | refine blk_drew ?_ | refine blk_alloc ?_ _)); exact BK468.out) hb); have n6_ := Aside0.mk (below_step (by repeat (first | (with_reducible first | exact HB.out | apply below_alloc | apply pw_below_drewN | apply below_drew1 | refine below_set ?_ GE468.out) | exact HB.out)) hb); clear HO473; clear HO478; clear HO488; clear HO497; clear BK468; clear HB; have HO473 := n0_; have HO478 := n1_; have HO488 := n2_; have HO497 := n3_; have HO500 := n4_; have BK468 := n5_; have HB := n6_; clear n0_ n1_ n2_ n3_ n4_ n5_ n6_; (try clear hb); (try clear hb2); (try clear hk); (try clear hi); (try clear ho0)))
       (try simp only [Act.put, List.setIfInBounds_toArray, List.set_cons_zero, List.set_cons_succ])
       go_cut [60] (fun v60 wc => ∃ (kq : Nat) (x60_13 : Bool), v60 = .bool x60_13 ∧ Aside0 (whetstonelaw08_BlocksMore.j0 kq a2 t476 t479 y486 x60_13 t469 t470 t471 t474 = some r) ∧ Aside0 (kq ≤ k) ∧ Aside0 (Kd.R k40 40 wc w.heap.size (fun _ => True) v477 t476) ∧ Aside0 (Kd.R (Kd.int .u32) 24 wc w.heap.size (fun k_ => some k_ ≠ ((.slice Ao19 t471.length co19) : Value).ownBlock) (.slice Ao30 y486.length co30) y486) ∧ Aside0 (Kd.R (Kd.int .u32) 24 wc w.heap.size (fun k_ => some k_ ≠ ((.slice Ao30 y486.length co30) : Value).ownBlock) (.slice Ao19 t471.length co19) t471) ∧ Aside0 (wc.heap[gb468]? = some (.cells #[.int .u32 t469, .int .u32 t470, (.slice Ao19 t471.length co19), .int .i64 t474] 32 (0, 0))) ∧ Aside0 (Below w.heap.size w wc))
       case first =>
        have H := HC14.out
        clear HC14
        by_cases c35 : t479 = t501
        ·rw [if_pos c35] at H
         have c35b0 : (t479 == t501) = true := beq_iff_eq.mpr c35
         have c35b1 : (t479 != t501) = false := bne_eq_false_iff_eq.mpr c35
         clear c35
         (first | rw [c35b0] | (simp only [i64_w, i32_w]; rw [c35b0]) | skip)
         replace H := Option.bind_eq_some_iff.mp H
         obtain ⟨t502, A360, H⟩ := H
         replace H : (whetstonelaw08_BlocksMore.j0 k a2 t476 t479 y486 (!t502) t469 t470 t471 t474) = some r := H
         have A36 := Aside0.mk A360
         clear A360
         have H' := Aside0.mk H
         clear H
         obtain ⟨Ao37, co37, eo37⟩ := Kd.R_slice HO478.out
         subst eo37
         obtain ⟨Ao38, co38, eo38⟩ := Kd.R_slice HO500.out
         subst eo38
         go_wp2_with (first | (go_at_call 20; (with_reducible refine (whetstoneref08_Same.calls k _ _ t476 _ _ t498 t502 _ ?side1 ?side2 ?side3 ?side4 A36.out).mono ?_); (case side1 => repeat (first | exact (Kd.R_reads' HO478.out).2.2 | (with_reducible refine Kd.C_alloc ?_ _) | (with_reducible refine Kd.C_drewN ?_ _) | (with_reducible refine Kd.C_drew ?_))); (case side2 => exact (Kd.R_reads' HO478.out).2.1); (case side3 => repeat (first | exact (Kd.R_reads' HO500.out).2.2 | (with_reducible refine Kd.C_alloc ?_ _) | (with_reducible refine Kd.C_drewN ?_ _) | (with_reducible refine Kd.C_drew ?_))); (case side4 => exact (Kd.R_reads' HO500.out).2.1); rintro e w' ⟨rfl, ⟨nd, rfl⟩⟩))
         go_meet
         case rel => exact ⟨_, (!t502), (by first | rfl | (simp; done) | (simp [*]; done)), H', ⟨by first | omega | exact Nat.le_refl _⟩, ⟨by (with_reducible repeat (first | apply Kd.R_alloc | apply Kd.R_drewN | apply Kd.R_drew)); exact Kd.R_mono HO478.out (fun _ hk => trivial)⟩, ⟨by (with_reducible repeat (first | apply Kd.R_alloc | apply Kd.R_drewN | apply Kd.R_drew)); exact Kd.R_mono HO488.out (fun _ hk => hk.1)⟩, ⟨by (with_reducible repeat (first | apply Kd.R_alloc | apply Kd.R_drewN | apply Kd.R_drew)); exact Kd.R_mono HO473.out (fun _ hk => hk.1)⟩, ⟨by (with_reducible repeat (first | refine blk_drewN ?_ _ | refine blk_drew ?_ | refine blk_alloc ?_ _)); exact BK468.out⟩, ⟨by repeat (first | (with_reducible first | exact HB.out | apply below_alloc | apply pw_below_drewN | apply below_drew1 | refine below_set ?_ GE468.out) | exact HB.out)⟩⟩
        ·rw [if_neg c35] at H
         have c35b0 : (t479 == t501) = false := beq_eq_false_iff_ne.mpr c35
         have c35b1 : (t479 != t501) = true := bne_iff_ne.mpr c35
         (first | rw [c35b0] | (simp only [i64_w, i32_w]; rw [c35b0]) | skip)
         have H' := Aside0.mk H
         clear H
         go_wp2
         go_meet
         case rel => exact ⟨_, (true), (by first | rfl | (simp; done) | (simp [*]; done)), H', ⟨by first | omega | exact Nat.le_refl _⟩, ⟨by (with_reducible repeat (first | apply Kd.R_alloc | apply Kd.R_drewN | apply Kd.R_drew)); exact Kd.R_mono HO478.out (fun _ hk => trivial)⟩, ⟨by (with_reducible repeat (first | apply Kd.R_alloc | apply Kd.R_drewN | apply Kd.R_drew)); exact Kd.R_mono HO488.out (fun _ hk => hk.1)⟩, ⟨by (with_reducible repeat (first | apply Kd.R_alloc | apply Kd.R_drewN | apply Kd.R_drew)); exact Kd.R_mono HO473.out (fun _ hk => hk.1)⟩, ⟨by (with_reducible repeat (first | refine blk_drewN ?_ _ | refine blk_drew ?_ | refine blk_alloc ?_ _)); exact BK468.out⟩, ⟨by repeat (first | (with_reducible first | exact HB.out | apply below_alloc | apply pw_below_drewN | apply below_drew1 | refine below_set ?_ GE468.out) | exact HB.out)⟩⟩
       case rest =>
        clear HC14
        try clear c1
        try clear p2
        try clear c3
        try clear c6
        try clear c6b0
        try clear c6b1
        try clear c7
        try clear c7b0
        try clear c7b1
        try clear c9
        try clear c10
        try clear c11
        try clear c12
        try clear c17
        try clear c19
        try clear c35
        try clear c35b0
        try clear c35b1
        try clear hcz16_0
        try clear hcz16_1
        try clear hcz16_2
        try clear hcz16_3
        try clear hcz18_0
        try clear hcz18_1
        try clear hcz18_2
        try clear hcz18_3
        try clear hcz25_0
        try clear hcz25_1
        try clear hcz25_2
        try clear hcz25_3
        try clear hcz32_0
        try clear hcz32_1
        try clear hcz32_2
        try clear hcz32_3
        try clear hfz16_0
        try clear hfz16_1
        try clear hfz16_2
        try clear hfz16_3
        try clear hfz18_0
        try clear hfz18_1
        try clear hfz18_2
        try clear hfz18_3
        try clear hfz25_0
        try clear hfz25_1
        try clear hfz25_2
        try clear hfz25_3
        try clear hfz32_0
        try clear hfz32_1
        try clear hfz32_2
        try clear hfz32_3
        obtain ⟨kq, x60_13, rfl, HA, HJ13, HO_7, HO_9, HO_469002, BK468, HB⟩ := hcut
        cases kq with
        | zero => exact absurd HA.out (by simp [whetstonelaw08_BlocksMore.j0])
        | succ kj13 =>
         have H := HA.out
         clear HA
         simp only [whetstonelaw08_BlocksMore.j0] at H
         by_cases c39 : x60_13 = true
         ·subst c39
          have H1 : (some false) = some r := by rw [if_pos rfl] at H; exact H
          clear H
          have H := H1
          clear H1
          obtain rfl := Option.some.inj H
          go_wp2
          go_ret
          exact ⟨by first | rfl | (simp [errW_none, errW_some] <;> rfl) | (simp only [← hji5]; first | rfl | (simp [errW_none, errW_some] <;> rfl)) | (simp [*, errW_none, errW_some] <;> rfl), by repeat (first | (with_reducible first | exact HB.out | apply below_alloc | apply pw_below_drewN | apply below_drew1 | refine below_set ?_ GE468.out) | exact HB.out)⟩
         ·replace c39 := Bool.eq_false_iff.mpr c39
          subst c39
          have H1 : (if y486.length < 35184372088832 then ((blocks_Find.f t469 t470 t471 t474 (y486 ++ [a2])).bind fun bt506 => (if t479 = 0 then (whetstonelaw08_BlocksMore.j1 kj13 t476 t479 bt506.1 bt506.2 (bt506.2 != 0)) else (whetstonelaw08_BlocksMore.j1 kj13 t476 t479 bt506.1 bt506.2 true))) else (none)) = some r := by rw [if_neg (show ¬ (false = true) by decide)] at H; exact H
          clear H
          have H := H1
          clear H1
          by_cases c40 : y486.length < 35184372088832
          ·rw [if_pos c40] at H
           have LMc40 := Aside0.mk c40
           clear c40
           obtain ⟨y503, hy503⟩ : ∃ y_ : List Int, y_ = (y486 ++ [a2]) := ⟨_, rfl⟩
           replace H : ((blocks_Find.f t469 t470 t471 t474 y503).bind fun bt506 => (if t479 = 0 then (whetstonelaw08_BlocksMore.j1 kj13 t476 t479 bt506.1 bt506.2 (bt506.2 != 0)) else (whetstonelaw08_BlocksMore.j1 kj13 t476 t479 bt506.1 bt506.2 true))) = some r := by first | (rw [hy503]; with_reducible exact H) | (have H2_ := (Option.bind_some _ _).symm.trans H; rw [hy503]; with_reducible exact H2_) | (have H2_ := (Option.bind_some _ _).symm.trans H; with_reducible exact H2_) | with_reducible exact H | (rw [hy503]; exact H) | exact H
           have Ny503 := Aside0.mk hy503
           clear hy503
           replace H := Option.bind_eq_some_iff.mp H
           obtain ⟨⟨t506, t509⟩, A410, H⟩ := H
           replace H : (if t479 = 0 then (whetstonelaw08_BlocksMore.j1 kj13 t476 t479 t506 t509 (t509 != 0)) else (whetstonelaw08_BlocksMore.j1 kj13 t476 t479 t506 t509 true)) = some r := H
           have A41 := Aside0.mk A410
           clear A410
           have HC42 := Aside0.mk H
           clear H
           go_upto_region 13 with (first | ((with_reducible refine gate_builtin (b := .append) (xs := #[.tmp 61, .tmp 63]) rfl ?_); (try (refine gate_guard (by rfl) ?_; dsimp only)); at_builtin; refine Kd.R_append (Kd.int .u32) (w0 := w) w.heap.size rfl (.tmp 61) (.tmp 63) 27 24 (.int .u32 0) 4 rfl Try.underlying27 info24 rfl (by decide) (by omega) (.slice Ao30 y486.length co30) y486 a2 [.int .u32 a2] (fun k_ => some k_ ≠ (.slice Ao19 t471.length co19 : Value).ownBlock) (fun _ => False) rfl rfl ?aP (fun _ hk => hk.elim) ?aF ?aO ?aB ?aS ?aL ?_; (case aP => exact rfl); (case aB => exact (by repeat (first | (with_reducible first | exact HB.out | apply below_alloc | apply pw_below_drewN | apply below_drew1 | refine below_set ?_ GE468.out) | exact HB.out))); (case aF => exact (fun k_ hk => Kd.fresh' (Kd.R_lt (by (with_reducible repeat (first | apply Kd.R_alloc | apply Kd.R_drewN | apply Kd.R_drew)); exact HO_469002.out)) k_ hk)); (case aO => exact (by (with_reducible repeat (first | apply Kd.R_alloc | apply Kd.R_drewN | apply Kd.R_drew)); exact HO_9.out)); (case aS => exact (below_size (by repeat (first | (with_reducible first | exact HB.out | apply below_alloc | apply pw_below_drewN | apply below_drew1 | refine below_set ?_ GE468.out) | exact HB.out)))); (case aL => have := LMc40.out; omega); intro v504 w43 ho hb hg hat; rw [← Ny503.out] at ho; have n0_ := Aside0.mk (Kd.R_over' (by (with_reducible repeat (first | apply Kd.R_alloc | apply Kd.R_drewN | apply Kd.R_drew)); exact HO_7.out) (Kd.R_typed (by (with_reducible repeat (first | apply Kd.R_alloc | apply Kd.R_drewN | apply Kd.R_drew)); exact HO_9.out)) (by decide) hg); have n1_ := Aside0.mk (Kd.R_after (ok := (fun _ => True)) (by (with_reducible repeat (first | apply Kd.R_alloc | apply Kd.R_drewN | apply Kd.R_drew)); exact Kd.R_mono HO_469002.out (fun _ hk => ⟨trivial, hk⟩)) hg hat); have n2_ := Aside0.mk (blk_grown (g := gb468) (o := .cells #[.int .u32 t469, .int .u32 t470, .slice Ao19 t471.length co19, .int .i64 t474] 32 (0, 0)) (by (with_reducible repeat (first | refine blk_drewN ?_ _ | refine blk_drew ?_ | refine blk_alloc ?_ _)); exact BK468.out) hg (Kd.R_ne HO_9.out BK468.out (by decide))); have n3_ := Aside0.mk (hb); have n4_ := Aside0.mk (ho); clear HO_7; clear HO_469002; clear BK468; clear HB; clear HO_9; have HO_7 := n0_; have HO_469002 := n1_; have BK468 := n2_; have HB := n3_; have HO505 := n4_; clear n0_ n1_ n2_ n3_ n4_; clear ho hb hg hat; have hcz44_0 : w43.cell? ⟨gb468, 0, none⟩ = some (.int .u32 t469) := (blk_cell BK468.out 0).trans rfl; have hcz44_1 : w43.cell? ⟨gb468, 1, none⟩ = some (.int .u32 t470) := (blk_cell BK468.out 1).trans rfl; have hcz44_2 : w43.cell? ⟨gb468, 2, none⟩ = some (.slice Ao19 t471.length co19) := (blk_cell BK468.out 2).trans rfl; have hcz44_3 : w43.cell? ⟨gb468, 3, none⟩ = some (.int .i64 t474) := (blk_cell BK468.out 3).trans rfl; have hfz44_0 := blk_frozen BK468.out 0; have hfz44_1 := blk_frozen BK468.out 1; have hfz44_2 := blk_frozen BK468.out 2; have hfz44_3 := blk_frozen BK468.out 3; obtain ⟨Ao45, co45, eo45⟩ := Kd.R_slice HO505.out; subst eo45) | ((with_reducible refine gate_callee (f := 19) rfl ?_); refine goesL_ (some 68) rfl rfl Try.func19 (by kernel_rfl) rfl #[.agg #[.int .u32 t469, .int .u32 t470, .slice Ao19 t471.length co19, .int .i64 t474], .slice Ao45 y503.length co45] rfl (by (try simp only [List.map_toArray, List.map_cons, List.map_nil]); first | done | rfl | (simp only [List.length_drop, List.length_take]; rfl)) ?_; (with_reducible refine (blocks_Find.calls t469 t470 _ _ t471 t474 _ _ y503 t506 t509 _ ?side1 ?side2 ?side3 ?side4 A41.out).mono ?_); (case side1 => repeat (first | exact (Kd.R_reads' HO_469002.out).2.2 | (with_reducible refine Kd.C_alloc ?_ _) | (with_reducible refine Kd.C_drewN ?_ _) | (with_reducible refine Kd.C_drew ?_))); (case side2 => exact (Kd.R_reads' HO_469002.out).2.1); (case side3 => repeat (first | exact (Kd.R_reads' HO505.out).2.2 | (with_reducible refine Kd.C_alloc ?_ _) | (with_reducible refine Kd.C_drewN ?_ _) | (with_reducible refine Kd.C_drew ?_))); (case side4 => exact (Kd.R_reads' HO505.out).2.1); rintro e w46 ⟨v507, rfl, ho0, hb⟩; refine ⟨_, rfl, ?_⟩; have n0_ := Aside0.mk (Kd.R_elder' (by (with_reducible repeat (first | apply Kd.R_alloc | apply Kd.R_drewN | apply Kd.R_drew)); exact HO_7.out) (Kd.R_base ho0) hb); have n1_ := Aside0.mk (Kd.R_below (by (with_reducible repeat (first | apply Kd.R_alloc | apply Kd.R_drewN | apply Kd.R_drew)); exact HO_469002.out) hb); have n2_ := Aside0.mk (Kd.R_below (by (with_reducible repeat (first | apply Kd.R_alloc | apply Kd.R_drewN | apply Kd.R_drew)); exact HO505.out) hb); have n3_ := Aside0.mk (Kd.R_lower (Kd.R_new' ho0 (Kd.R_lt (by (with_reducible repeat (first | apply Kd.R_alloc | apply Kd.R_drewN | apply Kd.R_drew)); exact HO_7.out))) (below_size (by repeat (first | (with_reducible first | exact HB.out | apply below_alloc | apply pw_below_drewN | apply below_drew1 | refine below_set ?_ GE468.out) | exact HB.out)))); have n4_ := Aside0.mk (blk_below (g := gb468) (o := .cells #[.int .u32 t469, .int .u32 t470, .slice Ao19 t471.length co19, .int .i64 t474] 32 (0, 0)) (by (with_reducible repeat (first | refine blk_drewN ?_ _ | refine blk_drew ?_ | refine blk_alloc ?_ _)); exact BK468.out) hb); have n5_ := Aside0.mk (below_step (by repeat (first | (with_reducible first | exact HB.out | apply below_alloc | apply pw_below_drewN | apply below_drew1 | refine below_set ?_ GE468.out) | exact HB.out)) hb); clear HO_7; clear HO_469002; clear HO505; clear BK468; clear HB; have HO_7 := n0_; have HO_469002 := n1_; have HO505 := n2_; have HO508 := n3_; have BK468 := n4_; have HB := n5_; clear n0_ n1_ n2_ n3_ n4_ n5_; (try clear hb); (try clear hb2); (try clear hk); (try clear hi); (try clear ho0)))
           (try simp only [Act.put, List.setIfInBounds_toArray, List.set_cons_zero, List.set_cons_succ])
           go_cut [76] (fun v76 wc => ∃ (kq : Nat) (x76_41 : Bool), v76 = .bool x76_41 ∧ Aside0 (whetstonelaw08_BlocksMore.j1 kq t476 t479 t506 t509 x76_41 = some r) ∧ Aside0 (kq ≤ kj13) ∧ Aside0 (Kd.R k40 40 wc w.heap.size (fun k_ => some k_ ≠ (v507 : Value).ownBlock) v477 t476) ∧ Aside0 (Kd.R k40 40 wc w.heap.size (fun k_ => some k_ ≠ (v477 : Value).ownBlock) v507 t506) ∧ Aside0 (Kd.R (Kd.int .u32) 24 wc w.heap.size (fun _ => True) (.slice Ao19 t471.length co19) t471) ∧ Aside0 (wc.heap[gb468]? = some (.cells #[.int .u32 t469, .int .u32 t470, (.slice Ao19 t471.length co19), .int .i64 t474] 32 (0, 0))) ∧ Aside0 (Below w.heap.size w wc))
           case first =>
            have H := HC42.out
            clear HC42
            by_cases c47 : t479 = 0
            ·rw [if_pos c47] at H
             have c47b0 : (t479 == 0) = true := beq_iff_eq.mpr c47
             have c47b1 : (t479 != 0) = false := bne_eq_false_iff_eq.mpr c47
             clear c47
             (first | rw [c47b0] | (simp only [i64_w, i32_w]; rw [c47b0]) | skip)
             have H' := Aside0.mk H
             clear H
             go_wp2
             go_meet
             case rel => exact ⟨_, ((t509 != 0)), (by first | rfl | (simp; done) | (simp [*]; done)), H', ⟨by have := HJ13.out; first | omega | exact Nat.le_refl _⟩, ⟨by (with_reducible repeat (first | apply Kd.R_alloc | apply Kd.R_drewN | apply Kd.R_drew)); exact Kd.R_mono HO_7.out (fun _ hk => hk.2)⟩, ⟨by (with_reducible repeat (first | apply Kd.R_alloc | apply Kd.R_drewN | apply Kd.R_drew)); exact Kd.R_mono HO508.out (fun _ hk => hk.2)⟩, ⟨by (with_reducible repeat (first | apply Kd.R_alloc | apply Kd.R_drewN | apply Kd.R_drew)); exact Kd.R_mono HO_469002.out (fun _ hk => trivial)⟩, ⟨by (with_reducible repeat (first | refine blk_drewN ?_ _ | refine blk_drew ?_ | refine blk_alloc ?_ _)); exact BK468.out⟩, ⟨by repeat (first | (with_reducible first | exact HB.out | apply below_alloc | apply pw_below_drewN | apply below_drew1 | refine below_set ?_ GE468.out) | exact HB.out)⟩⟩
            ·rw [if_neg c47] at H
             have c47b0 : (t479 == 0) = false := beq_eq_false_iff_ne.mpr c47
             have c47b1 : (t479 != 0) = true := bne_iff_ne.mpr c47
             (first | rw [c47b0] | (simp only [i64_w, i32_w]; rw [c47b0]) | skip)
             have H' := Aside0.mk H
             clear H
             go_wp2
             go_meet
             case rel => exact ⟨_, (true), (by first | rfl | (simp; done) | (simp [*]; done)), H', ⟨by have := HJ13.out; first | omega | exact Nat.le_refl _⟩, ⟨by (with_reducible repeat (first | apply Kd.R_alloc | apply Kd.R_drewN | apply Kd.R_drew)); exact Kd.R_mono HO_7.out (fun _ hk => hk.2)⟩, ⟨by (with_reducible repeat (first | apply Kd.R_alloc | apply Kd.R_drewN | apply Kd.R_drew)); exact Kd.R_mono HO508.out (fun _ hk => hk.2)⟩, ⟨by (with_reducible repeat (first | apply Kd.R_alloc | apply Kd.R_drewN | apply Kd.R_drew)); exact Kd.R_mono HO_469002.out (fun _ hk => trivial)⟩, ⟨by (with_reducible repeat (first | refine blk_drewN ?_ _ | refine blk_drew ?_ | refine blk_alloc ?_ _)); exact BK468.out⟩, ⟨by repeat (first | (with_reducible first | exact HB.out | apply below_alloc | apply pw_below_drewN | apply below_drew1 | refine below_set ?_ GE468.out) | exact HB.out)⟩⟩
           case rest =>
            clear HC42
            try clear c1
            try clear p2
            try clear c3
            try clear c4
            try clear c6
            try clear c6b0
            try clear c6b1
            try clear c7
            try clear c7b0
            try clear c7b1
            try clear c9
            try clear c10
            try clear c11
            try clear c12
            try clear c17
            try clear c19
            try clear c35
            try clear c35b0
            try clear c35b1
            try clear c39
            try clear c40
            try clear c47
            try clear c47b0
            try clear c47b1
            try clear hcz16_0
            try clear hcz16_1
            try clear hcz16_2
            try clear hcz16_3
            try clear hcz18_0
            try clear hcz18_1
            try clear hcz18_2
            try clear hcz18_3
            try clear hcz25_0
            try clear hcz25_1
            try clear hcz25_2
            try clear hcz25_3
            try clear hcz32_0
            try clear hcz32_1
            try clear hcz32_2
            try clear hcz32_3
            try clear hcz44_0
            try clear hcz44_1
            try clear hcz44_2
            try clear hcz44_3
            try clear hfz16_0
            try clear hfz16_1
            try clear hfz16_2
            try clear hfz16_3
            try clear hfz18_0
            try clear hfz18_1
            try clear hfz18_2
            try clear hfz18_3
            try clear hfz25_0
            try clear hfz25_1
            try clear hfz25_2
            try clear hfz25_3
            try clear hfz32_0
            try clear hfz32_1
            try clear hfz32_2
            try clear hfz32_3
            try clear hfz44_0
            try clear hfz44_1
            try clear hfz44_2
            try clear hfz44_3
            try clear p2
            obtain ⟨kq, x76_41, rfl, HA, HJ41, HO_7, HO_13, HO_469002, BK468, HB⟩ := hcut
            cases kq with
            | zero => exact absurd HA.out (by simp [whetstonelaw08_BlocksMore.j1])
            | succ kj41 =>
             have H := HA.out
             clear HA
             simp only [whetstonelaw08_BlocksMore.j1] at H
             by_cases c48 : x76_41 = true
             ·subst c48
              have H1 : (if t479 = 0 then ((whetstonelaw08_fixed.f).bind fun t510 => (some t510)) else (if t509 = 0 then (some false) else ((whetstonelaw08_fixed.f).bind fun t511 => (some t511)))) = some r := by rw [if_pos rfl] at H; exact H
              clear H
              have H := H1
              clear H1
              by_cases c49 : t479 = 0
              ·rw [if_pos c49] at H
               have c49b0 : (t479 == 0) = true := beq_iff_eq.mpr c49
               have c49b1 : (t479 != 0) = false := bne_eq_false_iff_eq.mpr c49
               clear c49
               replace H := Option.bind_eq_some_iff.mp H
               obtain ⟨t510, A500, H⟩ := H
               replace H : (some t510) = some r := H
               have A50 := Aside0.mk A500
               clear A500
               obtain rfl := Option.some.inj H
               go_wp2_with (first | (go_at_call 11; (with_reducible refine (whetstonelaw08_fixed.calls  t510 _ A50.out).mono ?_); rintro e w51 ⟨rfl, hb⟩; have n0_ := Aside0.mk (Kd.R_below (by (with_reducible repeat (first | apply Kd.R_alloc | apply Kd.R_drewN | apply Kd.R_drew)); exact HO_7.out) hb); have n1_ := Aside0.mk (Kd.R_below (by (with_reducible repeat (first | apply Kd.R_alloc | apply Kd.R_drewN | apply Kd.R_drew)); exact HO_13.out) hb); have n2_ := Aside0.mk (Kd.R_below (by (with_reducible repeat (first | apply Kd.R_alloc | apply Kd.R_drewN | apply Kd.R_drew)); exact HO_469002.out) hb); have n3_ := Aside0.mk (blk_below (g := gb468) (o := .cells #[.int .u32 t469, .int .u32 t470, .slice Ao19 t471.length co19, .int .i64 t474] 32 (0, 0)) (by (with_reducible repeat (first | refine blk_drewN ?_ _ | refine blk_drew ?_ | refine blk_alloc ?_ _)); exact BK468.out) hb); have n4_ := Aside0.mk (below_step (by repeat (first | (with_reducible first | exact HB.out | apply below_alloc | apply pw_below_drewN | apply below_drew1 | refine below_set ?_ GE468.out) | exact HB.out)) hb); clear HO_7; clear HO_13; clear HO_469002; clear BK468; clear HB; have HO_7 := n0_; have HO_13 := n1_; have HO_469002 := n2_; have BK468 := n3_; have HB := n4_; clear n0_ n1_ n2_ n3_ n4_; (try clear hb); (try clear hb2); (try clear hk); (try clear hi)))
               go_ret
               exact ⟨by first | rfl | (simp [errW_none, errW_some] <;> rfl) | (simp only [← hji5]; first | rfl | (simp [errW_none, errW_some] <;> rfl)) | (simp [*, errW_none, errW_some] <;> rfl), by repeat (first | (with_reducible first | exact HB.out | apply below_alloc | apply pw_below_drewN | apply below_drew1 | refine below_set ?_ GE468.out) | exact HB.out)⟩
              ·rw [if_neg c49] at H
               have c49b0 : (t479 == 0) = false := beq_eq_false_iff_ne.mpr c49
               have c49b1 : (t479 != 0) = true := bne_iff_ne.mpr c49
               by_cases c52 : t509 = 0
               ·rw [if_pos c52] at H
                have c52b0 : (t509 == 0) = true := beq_iff_eq.mpr c52
                have c52b1 : (t509 != 0) = false := bne_eq_false_iff_eq.mpr c52
                clear c52
                obtain rfl := Option.some.inj H
                go_wp2
                go_ret
                exact ⟨by first | rfl | (simp [errW_none, errW_some] <;> rfl) | (simp only [← hji5]; first | rfl | (simp [errW_none, errW_some] <;> rfl)) | (simp [*, errW_none, errW_some] <;> rfl), by repeat (first | (with_reducible first | exact HB.out | apply below_alloc | apply pw_below_drewN | apply below_drew1 | refine below_set ?_ GE468.out) | exact HB.out)⟩
               ·rw [if_neg c52] at H
                have c52b0 : (t509 == 0) = false := beq_eq_false_iff_ne.mpr c52
                have c52b1 : (t509 != 0) = true := bne_iff_ne.mpr c52
                replace H := Option.bind_eq_some_iff.mp H
                obtain ⟨t511, A530, H⟩ := H
                replace H : (some t511) = some r := H
                have A53 := Aside0.mk A530
                clear A530
                obtain rfl := Option.some.inj H
                go_wp2_with (first | (go_at_call 11; (with_reducible refine (whetstonelaw08_fixed.calls  t511 _ A53.out).mono ?_); rintro e w54 ⟨rfl, hb⟩; have n0_ := Aside0.mk (Kd.R_below (by (with_reducible repeat (first | apply Kd.R_alloc | apply Kd.R_drewN | apply Kd.R_drew)); exact HO_7.out) hb); have n1_ := Aside0.mk (Kd.R_below (by (with_reducible repeat (first | apply Kd.R_alloc | apply Kd.R_drewN | apply Kd.R_drew)); exact HO_13.out) hb); have n2_ := Aside0.mk (Kd.R_below (by (with_reducible repeat (first | apply Kd.R_alloc | apply Kd.R_drewN | apply Kd.R_drew)); exact HO_469002.out) hb); have n3_ := Aside0.mk (blk_below (g := gb468) (o := .cells #[.int .u32 t469, .int .u32 t470, .slice Ao19 t471.length co19, .int .i64 t474] 32 (0, 0)) (by (with_reducible repeat (first | refine blk_drewN ?_ _ | refine blk_drew ?_ | refine blk_alloc ?_ _)); exact BK468.out) hb); have n4_ := Aside0.mk (below_step (by repeat (first | (with_reducible first | exact HB.out | apply below_alloc | apply pw_below_drewN | apply below_drew1 | refine below_set ?_ GE468.out) | exact HB.out)) hb); clear HO_7; clear HO_13; clear HO_469002; clear BK468; clear HB; have HO_7 := n0_; have HO_13 := n1_; have HO_469002 := n2_; have BK468 := n3_; have HB := n4_; clear n0_ n1_ n2_ n3_ n4_; (try clear hb); (try clear hb2); (try clear hk); (try clear hi)))
                go_ret
                exact ⟨by first | rfl | (simp [errW_none, errW_some] <;> rfl) | (simp only [← hji5]; first | rfl | (simp [errW_none, errW_some] <;> rfl)) | (simp [*, errW_none, errW_some] <;> rfl), by repeat (first | (with_reducible first | exact HB.out | apply below_alloc | apply pw_below_drewN | apply below_drew1 | refine below_set ?_ GE468.out) | exact HB.out)⟩
             ·replace c48 := Bool.eq_false_iff.mpr c48
              subst c48
              have H1 : (whetstonelaw08_BlocksMore.l0 kj41 t476 t506 0 0 0) = some r := by rw [if_neg (show ¬ (false = true) by decide)] at H; exact H
              clear H
              have H := H1
              clear H1
              have H' := Aside0.mk H
              clear H
              go_wp2
              go_loopg [15, 17] kj41 (fun kq v15 v17 w' => ∃ (x15_3 : Int) (x17_3 : Int), v15 = .int .i64 x15_3 ∧ v17 = .int .i64 x17_3 ∧ Aside0 (whetstonelaw08_BlocksMore.l0 kq t476 t506 x15_3 0 x17_3 = some r) ∧ Aside0 (kq ≤ kj41) ∧ Aside0 (Kd.R k40 40 w' w.heap.size (fun k_ => some k_ ≠ (v507 : Value).ownBlock) v477 t476) ∧ Aside0 (Kd.R k40 40 w' w.heap.size (fun k_ => some k_ ≠ (v477 : Value).ownBlock) v507 t506) ∧ Aside0 (Kd.R (Kd.int .u32) 24 w' w.heap.size (fun _ => True) (.slice Ao19 t471.length co19) t471) ∧ Aside0 (w'.heap[gb468]? = some (.cells #[.int .u32 t469, .int .u32 t470, (.slice Ao19 t471.length co19), .int .i64 t474] 32 (0, 0))) ∧ Aside0 (Below w.heap.size w w'))
              case atStart => exact ⟨(0), (0), (by first | rfl | (simp; done) | (simp [*]; done)), (by first | rfl | (simp; done) | (simp [*]; done)), H', ⟨Nat.le_refl _⟩, ⟨by (with_reducible repeat (first | apply Kd.R_alloc | apply Kd.R_drewN | apply Kd.R_drew)); exact HO_7.out⟩, ⟨by (with_reducible repeat (first | apply Kd.R_alloc | apply Kd.R_drewN | apply Kd.R_drew)); exact HO_13.out⟩, ⟨by (with_reducible repeat (first | apply Kd.R_alloc | apply Kd.R_drewN | apply Kd.R_drew)); exact HO_469002.out⟩, ⟨by (with_reducible repeat (first | refine blk_drewN ?_ _ | refine blk_drew ?_ | refine blk_alloc ?_ _)); exact BK468.out⟩, ⟨by repeat (first | (with_reducible first | exact HB.out | apply below_alloc | apply pw_below_drewN | apply below_drew1 | refine below_set ?_ GE468.out) | exact HB.out)⟩⟩
              case round =>
               clear H'
               try clear c1
               try clear p2
               try clear c3
               try clear c4
               try clear c5
               try clear c6
               try clear c6b0
               try clear c6b1
               try clear c7
               try clear c7b0
               try clear c7b1
               try clear c9
               try clear c10
               try clear c11
               try clear c12
               try clear c17
               try clear c19
               try clear c35
               try clear c35b0
               try clear c35b1
               try clear c39
               try clear c40
               try clear c47
               try clear c47b0
               try clear c47b1
               try clear c48
               try clear c49
               try clear c49b0
               try clear c49b1
               try clear c52
               try clear c52b0
               try clear c52b1
               try clear hcz16_0
               try clear hcz16_1
               try clear hcz16_2
               try clear hcz16_3
               try clear hcz18_0
               try clear hcz18_1
               try clear hcz18_2
               try clear hcz18_3
               try clear hcz25_0
               try clear hcz25_1
               try clear hcz25_2
               try clear hcz25_3
               try clear hcz32_0
               try clear hcz32_1
               try clear hcz32_2
               try clear hcz32_3
               try clear hcz44_0
               try clear hcz44_1
               try clear hcz44_2
               try clear hcz44_3
               try clear hfz16_0
               try clear hfz16_1
               try clear hfz16_2
               try clear hfz16_3
               try clear hfz18_0
               try clear hfz18_1
               try clear hfz18_2
               try clear hfz18_3
               try clear hfz25_0
               try clear hfz25_1
               try clear hfz25_2
               try clear hfz25_3
               try clear hfz32_0
               try clear hfz32_1
               try clear hfz32_2
               try clear hfz32_3
               try clear hfz44_0
               try clear hfz44_1
               try clear hfz44_2
               try clear hfz44_3
               try clear p2
               obtain ⟨x15_3, x17_3, rfl, rfl, HA, HK3, HO_7, HO_13, HO_469002, BK468, HB⟩ := hrel
               cases gk with
               | zero => exact absurd HA.out (by simp [whetstonelaw08_BlocksMore.l0])
               | succ k3 =>
                have H := HA.out
                clear HA
                simp only [whetstonelaw08_BlocksMore.l0] at H
                by_cases c55 : x17_3 < (t476.length : Int)
                ·rw [if_pos c55] at H
                 have c55b0 : decide (x17_3 < (t476.length : Int)) = true := decide_eq_true c55
                 clear c55
                 by_cases c56 : 0 ≤ x17_3
                 ·rw [if_pos c56] at H
                  have c56b0 : decide (0 ≤ x17_3) = true := decide_eq_true c56
                  clear c56
                  have H' := Aside0.mk H
                  clear H
                  obtain ⟨Ao57, co57, eo57⟩ := Kd.R_slice HO_7.out
                  subst eo57
                  have p512 : 0 ≤ (x17_3 : Int) := of_decide_eq_true (by first | (with_reducible assumption) | assumption)
                  have q512 : x17_3 < (t476.length : Int) := of_decide_eq_true (by first | (with_reducible assumption) | assumption)
                  obtain ⟨ad512, e512, hx512_0, hx512_1⟩ := at_T40 (Kd.R_reads' HO_7.out).2.2 x17_3 p512 q512
                  cases e512
                  replace p512 := eq_true p512
                  replace q512 := eq_true q512
                  go_wp2
                  go_roundg k3
                  case measure => have := HJ13.out; have := HJ41.out; have := HK3.out; omega
                  case rel => exact ⟨(wrap64 (x15_3 + ((rd_T40 t476 x17_3).f1))), (wrap64 (x17_3 + 1)), (by first | rfl | (simp; done) | (simp [*]; done)), (by first | rfl | (simp; done) | (simp [*]; done)), H', ⟨by have := HJ13.out; have := HJ41.out; have := HK3.out; omega⟩, ⟨by (with_reducible repeat (first | apply Kd.R_alloc | apply Kd.R_drewN | apply Kd.R_drew)); exact HO_7.out⟩, ⟨by (with_reducible repeat (first | apply Kd.R_alloc | apply Kd.R_drewN | apply Kd.R_drew)); exact HO_13.out⟩, ⟨by (with_reducible repeat (first | apply Kd.R_alloc | apply Kd.R_drewN | apply Kd.R_drew)); exact HO_469002.out⟩, ⟨by (with_reducible repeat (first | refine blk_drewN ?_ _ | refine blk_drew ?_ | refine blk_alloc ?_ _)); exact BK468.out⟩, ⟨by repeat (first | (with_reducible first | exact HB.out | apply below_alloc | apply pw_below_drewN | apply below_drew1 | refine below_set ?_ GE468.out) | exact HB.out)⟩⟩
                 ·rw [if_neg c56] at H
                  exact absurd H (by simp)
                ·rw [if_neg c55] at H
                 have c55b0 : decide (x17_3 < (t476.length : Int)) = false := decide_eq_false c55
                 clear c55
                 have H' := Aside0.mk H
                 clear H
                 obtain ⟨Ao58, co58, eo58⟩ := Kd.R_slice HO_7.out
                 subst eo58
                 go_wp2
                 go_loopg [16, 18] k3 (fun kq v16 v18 w' => ∃ (x16_4 : Int) (x18_4 : Int), v16 = .int .i64 x16_4 ∧ v18 = .int .i64 x18_4 ∧ Aside0 (whetstonelaw08_BlocksMore.l1 kq t476 t506 x15_3 x16_4 x18_4 = some r) ∧ Aside0 (kq ≤ k3) ∧ Aside0 (Kd.R k40 40 w' w.heap.size (fun k_ => some k_ ≠ (v507 : Value).ownBlock) (.slice Ao58 t476.length co58) t476) ∧ Aside0 (Kd.R k40 40 w' w.heap.size (fun k_ => some k_ ≠ ((.slice Ao58 t476.length co58) : Value).ownBlock) v507 t506) ∧ Aside0 (Kd.R (Kd.int .u32) 24 w' w.heap.size (fun _ => True) (.slice Ao19 t471.length co19) t471) ∧ Aside0 (w'.heap[gb468]? = some (.cells #[.int .u32 t469, .int .u32 t470, (.slice Ao19 t471.length co19), .int .i64 t474] 32 (0, 0))) ∧ Aside0 (Below w.heap.size w w'))
                 case atStart => exact ⟨(0), (0), (by first | rfl | (simp; done) | (simp [*]; done)), (by first | rfl | (simp; done) | (simp [*]; done)), H', ⟨Nat.le_refl _⟩, ⟨by (with_reducible repeat (first | apply Kd.R_alloc | apply Kd.R_drewN | apply Kd.R_drew)); exact HO_7.out⟩, ⟨by (with_reducible repeat (first | apply Kd.R_alloc | apply Kd.R_drewN | apply Kd.R_drew)); exact HO_13.out⟩, ⟨by (with_reducible repeat (first | apply Kd.R_alloc | apply Kd.R_drewN | apply Kd.R_drew)); exact HO_469002.out⟩, ⟨by (with_reducible repeat (first | refine blk_drewN ?_ _ | refine blk_drew ?_ | refine blk_alloc ?_ _)); exact BK468.out⟩, ⟨by repeat (first | (with_reducible first | exact HB.out | apply below_alloc | apply pw_below_drewN | apply below_drew1 | refine below_set ?_ GE468.out) | exact HB.out)⟩⟩
                 case round =>
                  clear H'
                  try clear c1
                  try clear p2
                  try clear c3
                  try clear c4
                  try clear c5
                  try clear p5
                  try clear q5
                  try clear hx5
                  try clear c6
                  try clear c6b0
                  try clear c6b1
                  try clear p6
                  try clear c7
                  try clear c7b0
                  try clear c7b1
                  try clear c9
                  try clear c10
                  try clear c11
                  try clear c12
                  try clear c17
                  try clear c19
                  try clear c35
                  try clear c35b0
                  try clear c35b1
                  try clear c39
                  try clear c40
                  try clear c47
                  try clear c47b0
                  try clear c47b1
                  try clear c48
                  try clear c49
                  try clear c49b0
                  try clear c49b1
                  try clear p51
                  try clear q51
                  try clear hx51
                  try clear c52
                  try clear c52b0
                  try clear c52b1
                  try clear c55
                  try clear c55b0
                  try clear c56
                  try clear c56b0
                  try clear hcz16_0
                  try clear hcz16_1
                  try clear hcz16_2
                  try clear hcz16_3
                  try clear hcz18_0
                  try clear hcz18_1
                  try clear hcz18_2
                  try clear hcz18_3
                  try clear hcz25_0
                  try clear hcz25_1
                  try clear hcz25_2
                  try clear hcz25_3
                  try clear hcz32_0
                  try clear hcz32_1
                  try clear hcz32_2
                  try clear hcz32_3
                  try clear hcz44_0
                  try clear hcz44_1
                  try clear hcz44_2
                  try clear hcz44_3
                  try clear hfz16_0
                  try clear hfz16_1
                  try clear hfz16_2
                  try clear hfz16_3
                  try clear hfz18_0
                  try clear hfz18_1
                  try clear hfz18_2
                  try clear hfz18_3
                  try clear hfz25_0
                  try clear hfz25_1
                  try clear hfz25_2
                  try clear hfz25_3
                  try clear hfz32_0
                  try clear hfz32_1
                  try clear hfz32_2
                  try clear hfz32_3
                  try clear hfz44_0
                  try clear hfz44_1
                  try clear hfz44_2
                  try clear hfz44_3
                  try clear hx512_0
                  try clear hx512_1
                  try clear p2
                  try clear p512
                  try clear q512
                  obtain ⟨x16_4, x18_4, rfl, rfl, HA, HK4, HO_7, HO_13, HO_469002, BK468, HB⟩ := hrel
                  cases gk with
                  | zero => exact absurd HA.out (by simp [whetstonelaw08_BlocksMore.l1])
                  | succ k4 =>
                   have H := HA.out
                   clear HA
                   simp only [whetstonelaw08_BlocksMore.l1] at H
                   by_cases c59 : x18_4 < (t506.length : Int)
                   ·rw [if_pos c59] at H
                    have c59b0 : decide (x18_4 < (t506.length : Int)) = true := decide_eq_true c59
                    clear c59
                    by_cases c60 : 0 ≤ x18_4
                    ·rw [if_pos c60] at H
                     have c60b0 : decide (0 ≤ x18_4) = true := decide_eq_true c60
                     clear c60
                     have H' := Aside0.mk H
                     clear H
                     obtain ⟨Ao61, co61, eo61⟩ := Kd.R_slice HO_13.out
                     subst eo61
                     have p513 : 0 ≤ (x18_4 : Int) := of_decide_eq_true (by first | (with_reducible assumption) | assumption)
                     have q513 : x18_4 < (t506.length : Int) := of_decide_eq_true (by first | (with_reducible assumption) | assumption)
                     obtain ⟨ad513, e513, hx513_0, hx513_1⟩ := at_T40 (Kd.R_reads' HO_13.out).2.2 x18_4 p513 q513
                     cases e513
                     replace p513 := eq_true p513
                     replace q513 := eq_true q513
                     go_wp2
                     go_roundg k4
                     case measure => have := HJ13.out; have := HJ41.out; have := HK3.out; have := HK4.out; omega
                     case rel => exact ⟨(wrap64 (x16_4 + ((rd_T40 t506 x18_4).f1))), (wrap64 (x18_4 + 1)), (by first | rfl | (simp; done) | (simp [*]; done)), (by first | rfl | (simp; done) | (simp [*]; done)), H', ⟨by have := HJ13.out; have := HJ41.out; have := HK3.out; have := HK4.out; omega⟩, ⟨by (with_reducible repeat (first | apply Kd.R_alloc | apply Kd.R_drewN | apply Kd.R_drew)); exact HO_7.out⟩, ⟨by (with_reducible repeat (first | apply Kd.R_alloc | apply Kd.R_drewN | apply Kd.R_drew)); exact HO_13.out⟩, ⟨by (with_reducible repeat (first | apply Kd.R_alloc | apply Kd.R_drewN | apply Kd.R_drew)); exact HO_469002.out⟩, ⟨by (with_reducible repeat (first | refine blk_drewN ?_ _ | refine blk_drew ?_ | refine blk_alloc ?_ _)); exact BK468.out⟩, ⟨by repeat (first | (with_reducible first | exact HB.out | apply below_alloc | apply pw_below_drewN | apply below_drew1 | refine below_set ?_ GE468.out) | exact HB.out)⟩⟩
                    ·rw [if_neg c60] at H
                     exact absurd H (by simp)
                   ·rw [if_neg c59] at H
                    have c59b0 : decide (x18_4 < (t506.length : Int)) = false := decide_eq_false c59
                    clear c59
                    by_cases c62 : x16_4 ≥ x15_3
                    ·rw [if_pos c62] at H
                     have c62b0 : decide (x15_3 ≤ x16_4) = true := decide_eq_true c62
                     clear c62
                     by_cases c63 : (t506.length : Int) ≥ (t476.length : Int)
                     ·rw [if_pos c63] at H
                      have c63b0 : decide ((t476.length : Int) ≤ (t506.length : Int)) = true := decide_eq_true c63
                      have c63b1 : decide (t476.length ≤ t506.length) = true := decide_eq_true (Int.ofNat_le.mp c63)
                      clear c63
                      replace H := Option.bind_eq_some_iff.mp H
                      obtain ⟨t514, A640, H⟩ := H
                      replace H : (some t514) = some r := H
                      have A64 := Aside0.mk A640
                      clear A640
                      obtain rfl := Option.some.inj H
                      obtain ⟨Ao65, co65, eo65⟩ := Kd.R_slice HO_13.out
                      subst eo65
                      go_wp2_with (first | (go_at_call 11; (with_reducible refine (whetstonelaw08_fixed.calls  t514 _ A64.out).mono ?_); rintro e w66 ⟨rfl, hb⟩; have n0_ := Aside0.mk (Kd.R_below (by (with_reducible repeat (first | apply Kd.R_alloc | apply Kd.R_drewN | apply Kd.R_drew)); exact HO_7.out) hb); have n1_ := Aside0.mk (Kd.R_below (by (with_reducible repeat (first | apply Kd.R_alloc | apply Kd.R_drewN | apply Kd.R_drew)); exact HO_13.out) hb); have n2_ := Aside0.mk (Kd.R_below (by (with_reducible repeat (first | apply Kd.R_alloc | apply Kd.R_drewN | apply Kd.R_drew)); exact HO_469002.out) hb); have n3_ := Aside0.mk (blk_below (g := gb468) (o := .cells #[.int .u32 t469, .int .u32 t470, .slice Ao19 t471.length co19, .int .i64 t474] 32 (0, 0)) (by (with_reducible repeat (first | refine blk_drewN ?_ _ | refine blk_drew ?_ | refine blk_alloc ?_ _)); exact BK468.out) hb); have n4_ := Aside0.mk (below_step (by repeat (first | (with_reducible first | exact HB.out | apply below_alloc | apply pw_below_drewN | apply below_drew1 | refine below_set ?_ GE468.out) | exact HB.out)) hb); clear HO_7; clear HO_13; clear HO_469002; clear BK468; clear HB; have HO_7 := n0_; have HO_13 := n1_; have HO_469002 := n2_; have BK468 := n3_; have HB := n4_; clear n0_ n1_ n2_ n3_ n4_; (try clear hb); (try clear hb2); (try clear hk); (try clear hi)))
                      go_ret
                      exact ⟨by first | rfl | (simp [errW_none, errW_some] <;> rfl) | (simp only [← hji5]; first | rfl | (simp [errW_none, errW_some] <;> rfl)) | (simp [*, errW_none, errW_some] <;> rfl), by repeat (first | (with_reducible first | exact HB.out | apply below_alloc | apply pw_below_drewN | apply below_drew1 | refine below_set ?_ GE468.out) | exact HB.out)⟩
                     ·rw [if_neg c63] at H
                      have c63b0 : decide ((t476.length : Int) ≤ (t506.length : Int)) = false := decide_eq_false c63
                      have c63b1 : decide (t476.length ≤ t506.length) = false := decide_eq_false (fun h => c63 (Int.ofNat_le.mpr h))
                      clear c63
                      obtain rfl := Option.some.inj H
                      obtain ⟨Ao67, co67, eo67⟩ := Kd.R_slice HO_13.out
                      subst eo67
                      go_wp2
                      go_ret
                      exact ⟨by first | rfl | (simp [errW_none, errW_some] <;> rfl) | (simp only [← hji5]; first | rfl | (simp [errW_none, errW_some] <;> rfl)) | (simp [*, errW_none, errW_some] <;> rfl), by repeat (first | (with_reducible first | exact HB.out | apply below_alloc | apply pw_below_drewN | apply below_drew1 | refine below_set ?_ GE468.out) | exact HB.out)⟩
                    ·rw [if_neg c62] at H
                     have c62b0 : decide (x15_3 ≤ x16_4) = false := decide_eq_false c62
                     clear c62
                     obtain rfl := Option.some.inj H
                     obtain ⟨Ao68, co68, eo68⟩ := Kd.R_slice HO_13.out
                     subst eo68
                     go_wp2
                     go_ret
                     exact ⟨by first | rfl | (simp [errW_none, errW_some] <;> rfl) | (simp only [← hji5]; first | rfl | (simp [errW_none, errW_some] <;> rfl)) | (simp [*, errW_none, errW_some] <;> rfl), by repeat (first | (with_reducible first | exact HB.out | apply below_alloc | apply pw_below_drewN | apply below_drew1 | refine below_set ?_ GE468.out) | exact HB.out)⟩
          ·rw [if_neg c40] at H
           exact absurd H (by simp)
      ·rw [if_neg c12] at H
       exact absurd H (by simp)
     ·rw [if_neg c11] at H
      exact absurd H (by simp)
    ·rw [if_neg c10] at H
     exact absurd H (by simp)
   ·rw [if_neg c9] at H
    exact absurd H (by simp)
  ·rw [if_neg c7] at H
   exact absurd H (by simp)
 ·rw [if_neg c6] at H
  exact absurd H (by simp)
end Go.Proofs.Ytekenddkoahjgaa.Q
