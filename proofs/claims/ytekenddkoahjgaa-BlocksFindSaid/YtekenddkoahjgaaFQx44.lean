import Derived.Test.YtekenddkoahjgaaFZc
import Derived.Test.YtekenddkoahjgaaFQx3
import Derived.Test.YtekenddkoahjgaaFQx11
import Derived.Test.YtekenddkoahjgaaFQx37
import Derived.Test.YtekenddkoahjgaaFQx43
namespace Go.Proofs.Ytekenddkoahjgaa.Q
open Go.RowKit Go.Proofs.YtekenddkoahjgaaW.PrintWords Go.Proofs.YtekenddkoahjgaaW.PrintLast Go.Proofs.YtekenddkoahjgaaW.PrintMore
attribute [local go_sem] max2_int min2_int max_two min_two max_three min_three max_four min_four
attribute [local go_sem] imax_u32 imax_u8 isg_u32 isg_u8
set_option linter.unusedVariables false
set_option linter.unusedSimpArgs false
mutual
def whetstonelaw08_BlocksFind.l0 : Nat → List Int → List (S40) → Int → Int → Int → Int → List Int → Int → Option (Bool)
 | 0, _, _, _, _, _, _, _, _ => none
 | k + 1, x1, x5, x6, x7, x515000, x515001, x515002, x515003 => if x7 < 2 then ((blocks_Find.f x515000 x515001 x515002 x515003 x1).bind fun bt527 => (if bt527.2 = x6 then ((whetstoneref08_Same.f k bt527.1 x5).bind fun t531 => (whetstonelaw08_BlocksFind.j1 k x1 x5 x6 x7 bt527.1 (!t531) x515000 x515001 x515002 x515003)) else (whetstonelaw08_BlocksFind.j1 k x1 x5 x6 x7 bt527.1 true x515000 x515001 x515002 x515003))) else ((whetstonelaw08_fixed.f).bind fun t526 => (some t526))
def whetstonelaw08_BlocksFind.j1 : Nat → List Int → List (S40) → Int → Int → List (S40) → Bool → Int → Int → List Int → Int → Option (Bool)
 | 0, _, _, _, _, _, _, _, _, _, _ => none
 | k + 1, x1, x5, x6, x7, x8, x42, x515000, x515001, x515002, x515003 => if x42 = true then (some false) else (whetstonelaw08_BlocksFind.l1 k x1 x5 x6 x7 x8 0 x515000 x515001 x515002 x515003)
def whetstonelaw08_BlocksFind.l1 : Nat → List Int → List (S40) → Int → Int → List (S40) → Int → Int → Int → List Int → Int → Option (Bool)
 | 0, _, _, _, _, _, _, _, _, _, _ => none
 | k + 1, x1, x5, x6, x7, x8, x10, x515000, x515001, x515002, x515003 => if x10 < (x8.length : Int) then (if 0 ≤ x10 then (whetstonelaw08_BlocksFind.l1 k x1 x5 x6 x7 (x8.set (x10 : Int).toNat (⟨(rd_T40 x8 x10).f0, 0⟩ : S40)) (wrap64 (x10 + 1)) x515000 x515001 x515002 x515003) else (none)) else (whetstonelaw08_BlocksFind.l0 k x1 x5 x6 (wrap64 (x7 + 1)) x515000 x515001 x515002 x515003)
end
def whetstonelaw08_BlocksFind.f (k : Nat) (a0_0 : Int) (a0_1 : Int) (l0_2 : List Int) (a0_3 : Int) (l1 : List Int) : Option (Bool) := (whetstonelaw08_Text.f a0_0 a0_1 l0_2 a0_3).bind fun bt515 => (if 0 ≤ (mn (l1.length : Int) 8) then (if (mn (l1.length : Int) 8) ≤ (l1.length : Int) then ((whetstoneref08_Find.f bt515.1 bt515.2.1 bt515.2.2.1 bt515.2.2.2 (l1.take ((mn (l1.length : Int) 8) : Int).toNat)).bind fun bt522 => (whetstonelaw08_BlocksFind.l0 k (l1.take ((mn (l1.length : Int) 8) : Int).toNat) bt522.1 bt522.2 0 bt515.1 bt515.2.1 bt515.2.2.1 bt515.2.2.2)) else (none)) else (none))
set_option maxHeartbeats 8000000 in
set_option maxRecDepth 100000 in
theorem whetstonelaw08_BlocksFind.calls (k : Nat) (a0_0 : Int) (a0_1 : Int) (A0_2 : Option Addr) (c0_2 : Nat) (l0_2 : List Int) (a0_3 : Int) (A1 : Option Addr) (c1 : Nat) (l1 : List Int) (r : Bool) (w : World) (hr0_2 : Kd.C (Kd.int .u32) w A0_2 l0_2.length l0_2) (hc0_2 : l0_2.length ≤ c0_2) (hr1 : Kd.C (Kd.int .u32) w A1 l1.length l1) (hc1 : l1.length ≤ c1) (h : whetstonelaw08_BlocksFind.f k a0_0 a0_1 l0_2 a0_3 l1 = some r) :
  Calls Try.prog 4 #[.agg #[.int .u32 a0_0, .int .u32 a0_1, .slice A0_2 l0_2.length c0_2, .int .i64 a0_3], .slice A1 l1.length c1] w fun e w' => e = .returned (.bool r) ∧ Below w.heap.size w w' := by
 have hu32 := Try.underlying32
 have HR0_2 := Aside0.mk hr0_2
 have HC0_2 := Aside0.mk hc0_2
 clear hr0_2 hc0_2
 have HR1 := Aside0.mk hr1
 have HC1 := Aside0.mk hc1
 clear hr1 hc1
 have HB := Aside0.mk (Below.refl w.heap.size w)
 have H : ((whetstonelaw08_Text.f a0_0 a0_1 l0_2 a0_3).bind fun bt515 => (if 0 ≤ (mn (l1.length : Int) 8) then (if (mn (l1.length : Int) 8) ≤ (l1.length : Int) then ((whetstoneref08_Find.f bt515.1 bt515.2.1 bt515.2.2.1 bt515.2.2.2 (l1.take ((mn (l1.length : Int) 8) : Int).toNat)).bind fun bt522 => (whetstonelaw08_BlocksFind.l0 k (l1.take ((mn (l1.length : Int) 8) : Int).toNat) bt522.1 bt522.2 0 bt515.1 bt515.2.1 bt515.2.2.1 bt515.2.2.2)) else (none)) else (none))) = some r := h
 clear h
 replace H := Option.bind_eq_some_iff.mp H
 obtain ⟨⟨t515, t516, t517, t520⟩, A30, H⟩ := H
 replace H : (if 0 ≤ (mn (l1.length : Int) 8) then (if (mn (l1.length : Int) 8) ≤ (l1.length : Int) then ((whetstoneref08_Find.f t515 t516 t517 t520 (l1.take ((mn (l1.length : Int) 8) : Int).toNat)).bind fun bt522 => (whetstonelaw08_BlocksFind.l0 k (l1.take ((mn (l1.length : Int) 8) : Int).toNat) bt522.1 bt522.2 0 t515 t516 t517 t520)) else (none)) else (none)) = some r := H
 have A3 := Aside0.mk A30
 clear A30
 obtain ⟨ji4, hji4⟩ : ∃ j_ : Int, (mn (l1.length : Int) 8) = j_ := ⟨_, rfl⟩
 replace H : (if 0 ≤ (ji4) then (if (ji4) ≤ (l1.length : Int) then ((whetstoneref08_Find.f t515 t516 t517 t520 (l1.take ((ji4) : Int).toNat)).bind fun bt522 => (whetstonelaw08_BlocksFind.l0 k (l1.take ((ji4) : Int).toNat) bt522.1 bt522.2 0 t515 t516 t517 t520)) else (none)) else (none)) = some r := by first | (rw [hji4] at H; exact H) | (simp only [hji4] at H ⊢; exact H)
 (try rw [hji4] at A3)
 (try (have hji4h : ji4 ≤ 8 := by (rw [← hji4]; unfold mn; (repeat' split) <;> omega)))
 (try (have hji4g : ji4 ≤ 64 := by omega))
 (try (have hji4l : 0 ≤ ji4 := by (rw [← hji4]; unfold mn; (repeat' split) <;> omega)))
 (try (have hji4m : 0 ≤ ji4 := by omega))
 have hji4_ : (if 8 < (l1.length : Int) then 8 else (l1.length : Int)) = ji4 := hji4
 by_cases c5 : 0 ≤ (ji4)
 ·rw [if_pos c5] at H
  have c5b0 := eq_true c5
  have c5b1 : decide (0 ≤ (ji4)) = true := decide_eq_true c5
  clear c5
  by_cases c6 : (ji4) ≤ (l1.length : Int)
  ·rw [if_pos c6] at H
   have c6b0 := eq_true c6
   have c6b1 : decide ((ji4) ≤ (l1.length : Int)) = true := decide_eq_true c6
   clear c6
   replace H := Option.bind_eq_some_iff.mp H
   obtain ⟨⟨t522, t525⟩, A70, H⟩ := H
   replace H : (whetstonelaw08_BlocksFind.l0 k (l1.take ((ji4) : Int).toNat) t522 t525 0 t515 t516 t517 t520) = some r := H
   have A7 := Aside0.mk A70
   clear A70
   have H' := Aside0.mk H
   clear H
   go_enter Try.func4, Try.ntmps4
   go_wp2_with (first | ((with_reducible refine gate_dst (N := 2) rfl ?_); refine box_event ?hg (N := 2) ?hd (cs := #[.int .u32 a0_0, .int .u32 a0_1, .slice A0_2 l0_2.length c0_2, .int .i64 a0_3]) (t := 32) ?hr ?_; (case hd => rfl); (case hg => rfl); (case hr => first | (go_simp; done) | (go_simp; rfl)); intro gb514 hg w8 hbox hb; have n0_ := Aside0.mk (below_step zzb hb); have n1_ := Aside0.mk (hbox); have n2_ := Aside0.mk ((by rw [hg]; exact (below_size zzb) : w.heap.size ≤ gb514)); have n3_ := Aside0.mk ((by rw [hg]; exact (below_size zzb) : w.heap.size ≤ gb514)); clear HB; have HB := n0_; have BK514 := n1_; have GW514 := n2_; have GE514 := n3_; clear n0_ n1_ n2_ n3_; clear hb hbox hg; obtain ⟨hcz9_0, hcz9_1, hcz9_2, hcz9_3⟩ := zzc4 BK514.out (.int .u32 a0_0) (.int .u32 a0_1) (.slice A0_2 l0_2.length c0_2) (.int .i64 a0_3); obtain ⟨hfz9_0, hfz9_1, hfz9_2, hfz9_3⟩ := zzf4 BK514.out) | ((with_reducible refine gate_callee (f := 17) rfl ?_); refine goesL_ (some 12) rfl rfl Try.func17 (by kernel_rfl) rfl #[.agg #[.int .u32 a0_0, .int .u32 a0_1, .slice A0_2 l0_2.length c0_2, .int .i64 a0_3]] rfl zza ?_; (with_reducible refine (whetstonelaw08_Text.calls a0_0 a0_1 _ _ l0_2 a0_3 t515 t516 t517 t520 _ ?side1 ?side2 A3.out).mono ?_); (case side1 => repeat (first | exact (Kd.C_below HR0_2.out HB.out) | (with_reducible refine Kd.C_alloc ?_ _) | (with_reducible refine Kd.C_drewN ?_ _) | (with_reducible refine Kd.C_drew ?_))); (case side2 => exact HC0_2.out); rintro e w10 ⟨v518, rfl, ho0, hb⟩; refine ⟨_, rfl, ?_⟩; have n0_ := Aside0.mk (Kd.R_lower ho0 (below_size zzg)); have n1_ := Aside0.mk (zzkb BK514.out hb); have n2_ := Aside0.mk (below_step zzg hb); clear BK514; clear HB; have HO519 := n0_; have BK514 := n1_; have HB := n2_; clear n0_ n1_ n2_; (try clear hb); (try clear hb2); (try clear hk); (try clear hi); (try clear ho0); obtain ⟨hcz11_0, hcz11_1, hcz11_2, hcz11_3⟩ := zzc4 BK514.out (.int .u32 a0_0) (.int .u32 a0_1) (.slice A0_2 l0_2.length c0_2) (.int .i64 a0_3); obtain ⟨hfz11_0, hfz11_1, hfz11_2, hfz11_3⟩ := zzf4 BK514.out; obtain ⟨Ao12, co12, eo12⟩ := Kd.R_slice HO519.out; subst eo12; obtain ⟨i013, hi013, _, hsz13, _⟩ := info_parts info24; obtain ⟨hcut13, hA13, hC13⟩ := print_take_of (P := Try.prog) (Value.int .u32) 0 27 24 .i64 Try.underlying27 hi013 hsz13 A1 c1 l1 (ji4) (of_decide_eq_true zzm) (of_decide_eq_true zzm) HC1.out; have HR521 := Aside0.mk (Kd.C_of_reads (h1 := fun _ => rfl) (hA13 _ (Kd.reads_of_C HR1.out))); have HC521 := Aside0.mk hC13; clear hA13 hC13 hi013 hsz13) | ((with_reducible refine gate_callee (f := 18) rfl ?_); refine goesL_ (some 21) rfl rfl Try.func18 (by kernel_rfl) rfl #[.agg #[.int .u32 t515, .int .u32 t516, .slice Ao12 t517.length co12, .int .i64 t520], .slice A1 (l1.take ((ji4) : Int).toNat).length c1] rfl (by (try simp only [List.map_toArray, List.map_cons, List.map_nil]); first | done | (rw [show (l1.take ((ji4) : Int).toNat).length = (ji4).toNat from (by rw [List.length_take]; have h_ : ((ji4) : Int) ≤ (l1.length : Int) := (by first | exact of_decide_eq_true zzm | (have q_ := hji4_; split at q_ <;> omega)); omega)] <;> rfl) | (simp only [hji4]; rfl) | rfl | (simp only [List.length_drop, List.length_take]; rfl)) ?_; (with_reducible refine (whetstoneref08_Find.calls t515 t516 _ _ t517 t520 _ _ (l1.take ((ji4) : Int).toNat) t522 t525 _ ?side1 ?side2 ?side3 ?side4 A7.out).mono ?_); (case side1 => refine (Kd.R_reads' (e := 24) (base := w.heap.size) (ok := fun k_ => True) (n := t517.length) (c := co12) ?_).2.2; exact (by refine zzr ?_; exact (Kd.R_mono (Kd.R_far (p := ⟨gb514, 3, none⟩) (Kd.R_far (p := ⟨gb514, 2, none⟩) (Kd.R_far (p := ⟨gb514, 1, none⟩) (Kd.R_far (p := ⟨gb514, 0, none⟩) (Kd.R_types HO519.out BK514.out (by decide)) (fun _ hk => hk.2) (.int .u32 t515)) (fun _ hk => hk.2) (.int .u32 t516)) (fun _ hk => hk.2) (.slice Ao12 t517.length co12)) (fun _ hk => hk.2) (.int .i64 t520)) (fun _ h_ => h_.1)))); (case side2 => exact (Kd.R_reads' HO519.out).2.1); (case side3 => exact Kd.C_below HR521.out zzg); (case side4 => exact HC521.out); rintro e w14 ⟨v523, rfl, ho0, hb⟩; refine ⟨_, rfl, ?_⟩; have n0_ := Aside0.mk (Kd.R_below (by refine zzr ?_; exact (Kd.R_mono (Kd.R_far (p := ⟨gb514, 3, none⟩) (Kd.R_far (p := ⟨gb514, 2, none⟩) (Kd.R_far (p := ⟨gb514, 1, none⟩) (Kd.R_far (p := ⟨gb514, 0, none⟩) (Kd.R_types HO519.out BK514.out (by decide)) (fun _ hk => hk.2) (.int .u32 t515)) (fun _ hk => hk.2) (.int .u32 t516)) (fun _ hk => hk.2) (.slice Ao12 t517.length co12)) (fun _ hk => hk.2) (.int .i64 t520)) (fun _ h_ => h_.1))) hb); have n1_ := Aside0.mk (Kd.R_lower ho0 (below_size zzg)); have n2_ := Aside0.mk (blk_below (g := gb514) (o := .cells #[.int .u32 t515, .int .u32 t516, .slice Ao12 t517.length co12, .int .i64 t520] 32 (0, 0)) (by refine zzk ?_; refine blk_put (cs := #[.int .u32 t515, .int .u32 t516, .slice Ao12 t517.length co12, .int .i64 a0_3]) ?_ 3 _ rfl; refine zzk ?_; refine blk_put (cs := #[.int .u32 t515, .int .u32 t516, .slice A0_2 l0_2.length c0_2, .int .i64 a0_3]) ?_ 2 _ rfl; refine zzk ?_; refine blk_put (cs := #[.int .u32 t515, .int .u32 a0_1, .slice A0_2 l0_2.length c0_2, .int .i64 a0_3]) ?_ 1 _ rfl; refine zzk ?_; refine blk_put (cs := #[.int .u32 a0_0, .int .u32 a0_1, .slice A0_2 l0_2.length c0_2, .int .i64 a0_3]) ?_ 0 _ rfl; refine zzk ?_; exact BK514.out) hb); have n3_ := Aside0.mk (below_step zzg hb); clear HO519; clear BK514; clear HB; have HO519 := n0_; have HO524 := n1_; have BK514 := n2_; have HB := n3_; clear n0_ n1_ n2_ n3_; (try clear hb); (try clear hb2); (try clear hk); (try clear hi); (try clear ho0)))
   go_loopg [7] k (fun kq v7 w' => ∃ (x5_1 : List (S40)) (x7_1 : Int), v7 = .int .i64 x7_1 ∧ Aside0 (whetstonelaw08_BlocksFind.l0 kq (l1.take ((ji4) : Int).toNat) x5_1 t525 x7_1 t515 t516 t517 t520 = some r) ∧ Aside0 (kq ≤ k) ∧ Aside0 (Kd.R k40 40 w' w.heap.size (fun _ => True) v523 x5_1) ∧ Aside0 (Kd.R (Kd.int .u32) 24 w' w.heap.size (fun _ => True) (.slice Ao12 t517.length co12) t517) ∧ Aside0 (w'.heap[gb514]? = some (.cells #[.int .u32 t515, .int .u32 t516, (.slice Ao12 t517.length co12), .int .i64 t520] 32 (0, 0))) ∧ Aside0 (Below w.heap.size w w'))
   case atStart => exact ⟨(t522), (0), (by first | rfl | (simp; done) | (simp [*]; done)), H', ⟨Nat.le_refl _⟩, ⟨by refine zzr ?_; exact HO524.out⟩, ⟨by refine zzr ?_; exact HO519.out⟩, ⟨by refine zzk ?_; exact BK514.out⟩, ⟨by repeat (first | (with_reducible first | exact HB.out | apply below_alloc | apply pw_below_drewN | apply below_drew1 | refine below_set ?_ GE514.out) | exact HB.out)⟩⟩
   case round =>
    clear H'
    try clear c1
    try clear p2
    try clear c4
    try clear c5
    try clear c5b0
    try clear c5b1
    try clear c6
    try clear c6b0
    try clear c6b1
    try clear hcz11_0 hcz11_1 hcz11_2 hcz11_3
    try clear hcz9_0 hcz9_1 hcz9_2 hcz9_3
    try clear hfz11_0 hfz11_1 hfz11_2 hfz11_3
    try clear hfz9_0 hfz9_1 hfz9_2 hfz9_3
    obtain ⟨x5_1, x7_1, rfl, HA, HK1, HO_5, HO_515002, BK514, HB⟩ := hrel
    cases gk with
    | zero => exact absurd HA.out (by simp [whetstonelaw08_BlocksFind.l0])
    | succ k1 =>
     have H := HA.out
     clear HA
     simp only [whetstonelaw08_BlocksFind.l0] at H
     by_cases c15 : x7_1 < 2
     ·rw [if_pos c15] at H
      have c15b0 : decide (x7_1 < 2) = true := decide_eq_true c15
      clear c15
      replace H := Option.bind_eq_some_iff.mp H
      obtain ⟨⟨t527, t530⟩, A160, H⟩ := H
      replace H : (if t530 = t525 then ((whetstoneref08_Same.f k1 t527 x5_1).bind fun t531 => (whetstonelaw08_BlocksFind.j1 k1 (l1.take ((ji4) : Int).toNat) x5_1 t525 x7_1 t527 (!t531) t515 t516 t517 t520)) else (whetstonelaw08_BlocksFind.j1 k1 (l1.take ((ji4) : Int).toNat) x5_1 t525 x7_1 t527 true t515 t516 t517 t520)) = some r := H
      have A16 := Aside0.mk A160
      clear A160
      have HC17 := Aside0.mk H
      clear H
      obtain ⟨hcz18_0, hcz18_1, hcz18_2, hcz18_3⟩ := zzc4 BK514.out (.int .u32 t515) (.int .u32 t516) (.slice Ao12 t517.length co12) (.int .i64 t520)
      obtain ⟨hfz18_0, hfz18_1, hfz18_2, hfz18_3⟩ := zzf4 BK514.out
      go_upto_region 8 with (first | ((with_reducible refine gate_callee (f := 19) rfl ?_); refine goesL_ (some 31) rfl rfl Try.func19 (by kernel_rfl) rfl #[.agg #[.int .u32 t515, .int .u32 t516, .slice Ao12 t517.length co12, .int .i64 t520], .slice A1 (l1.take ((ji4) : Int).toNat).length c1] rfl (by (try simp only [List.map_toArray, List.map_cons, List.map_nil]); first | done | (rw [show (l1.take ((ji4) : Int).toNat).length = (ji4).toNat from (by rw [List.length_take]; have h_ : ((ji4) : Int) ≤ (l1.length : Int) := (by first | exact of_decide_eq_true zzm | (have q_ := hji4_; split at q_ <;> omega)); omega)] <;> rfl) | (simp only [hji4]; rfl) | rfl | (simp only [List.length_drop, List.length_take]; rfl)) ?_; (with_reducible refine (blocks_Find.calls t515 t516 _ _ t517 t520 _ _ (l1.take ((ji4) : Int).toNat) t527 t530 _ ?side1 ?side2 ?side3 ?side4 A16.out).mono ?_); (case side1 => repeat (first | exact (Kd.R_reads' HO_515002.out).2.2 | (with_reducible refine Kd.C_alloc ?_ _) | (with_reducible refine Kd.C_drewN ?_ _) | (with_reducible refine Kd.C_drew ?_))); (case side2 => exact (Kd.R_reads' HO_515002.out).2.1); (case side3 => repeat (first | exact (Kd.C_below HR521.out HB.out) | (with_reducible refine Kd.C_alloc ?_ _) | (with_reducible refine Kd.C_drewN ?_ _) | (with_reducible refine Kd.C_drew ?_))); (case side4 => exact HC521.out); rintro e w19 ⟨v528, rfl, ho0, hb⟩; refine ⟨_, rfl, ?_⟩; have n0_ := Aside0.mk (Kd.R_elder' (zzr HO_5.out) (Kd.R_base ho0) hb); have n1_ := Aside0.mk (Kd.R_below (zzr HO_515002.out) hb); have n2_ := Aside0.mk (Kd.R_lower (Kd.R_new' ho0 (Kd.R_lt (zzr HO_5.out))) (below_size zzg)); have n3_ := Aside0.mk (zzkb BK514.out hb); have n4_ := Aside0.mk (below_step zzg hb); clear HO_5; clear HO_515002; clear BK514; clear HB; have HO_5 := n0_; have HO_515002 := n1_; have HO529 := n2_; have BK514 := n3_; have HB := n4_; clear n0_ n1_ n2_ n3_ n4_; (try clear hb); (try clear hb2); (try clear hk); (try clear hi); (try clear ho0)))
      (try simp only [Act.put, List.setIfInBounds_toArray, List.set_cons_zero, List.set_cons_succ])
      go_cut [42] (fun v42 wc => ∃ (kq : Nat) (x42_16 : Bool), v42 = .bool x42_16 ∧ Aside0 (whetstonelaw08_BlocksFind.j1 kq (l1.take ((ji4) : Int).toNat) x5_1 t525 x7_1 t527 x42_16 t515 t516 t517 t520 = some r) ∧ Aside0 (kq ≤ k1) ∧ Aside0 (Kd.R k40 40 wc w.heap.size (fun k_ => some k_ ≠ (v528 : Value).ownBlock) v523 x5_1) ∧ Aside0 (Kd.R k40 40 wc w.heap.size (fun k_ => some k_ ≠ (v523 : Value).ownBlock) v528 t527) ∧ Aside0 (Kd.R (Kd.int .u32) 24 wc w.heap.size (fun _ => True) (.slice Ao12 t517.length co12) t517) ∧ Aside0 (wc.heap[gb514]? = some (.cells #[.int .u32 t515, .int .u32 t516, (.slice Ao12 t517.length co12), .int .i64 t520] 32 (0, 0))) ∧ Aside0 (Below w.heap.size w wc))
      case first =>
       have H := HC17.out
       clear HC17
       by_cases c20 : t530 = t525
       ·rw [if_pos c20] at H
        have c20b0 : (t530 == t525) = true := beq_iff_eq.mpr c20
        have c20b1 : (t530 != t525) = false := bne_eq_false_iff_eq.mpr c20
        clear c20
        (first | rw [c20b0] | (simp only [i64_w, i32_w]; rw [c20b0]) | skip)
        replace H := Option.bind_eq_some_iff.mp H
        obtain ⟨t531, A210, H⟩ := H
        replace H : (whetstonelaw08_BlocksFind.j1 k1 (l1.take ((ji4) : Int).toNat) x5_1 t525 x7_1 t527 (!t531) t515 t516 t517 t520) = some r := H
        have A21 := Aside0.mk A210
        clear A210
        have H' := Aside0.mk H
        clear H
        obtain ⟨Ao22, co22, eo22⟩ := Kd.R_slice HO529.out
        subst eo22
        obtain ⟨Ao23, co23, eo23⟩ := Kd.R_slice HO_5.out
        subst eo23
        go_wp2_with (first | (go_at_call 20; (with_reducible refine (whetstoneref08_Same.calls k1 _ _ t527 _ _ x5_1 t531 _ ?side1 ?side2 ?side3 ?side4 A21.out).mono ?_); (case side1 => repeat (first | exact (Kd.R_reads' HO529.out).2.2 | (with_reducible refine Kd.C_alloc ?_ _) | (with_reducible refine Kd.C_drewN ?_ _) | (with_reducible refine Kd.C_drew ?_))); (case side2 => exact (Kd.R_reads' HO529.out).2.1); (case side3 => repeat (first | exact (Kd.R_reads' HO_5.out).2.2 | (with_reducible refine Kd.C_alloc ?_ _) | (with_reducible refine Kd.C_drewN ?_ _) | (with_reducible refine Kd.C_drew ?_))); (case side4 => exact (Kd.R_reads' HO_5.out).2.1); rintro e w' ⟨rfl, ⟨nd, rfl⟩⟩))
        go_meet
        case rel => exact ⟨_, (!t531), (by first | rfl | (simp; done) | (simp [*]; done)), H', ⟨by have := HK1.out; first | omega | exact Nat.le_refl _⟩, ⟨by refine zzr ?_; exact Kd.R_mono HO_5.out (fun _ hk => hk.2)⟩, ⟨by refine zzr ?_; exact Kd.R_mono HO529.out (fun _ hk => hk.2)⟩, ⟨by refine zzr ?_; exact HO_515002.out⟩, ⟨by refine zzk ?_; exact BK514.out⟩, ⟨by repeat (first | (with_reducible first | exact HB.out | apply below_alloc | apply pw_below_drewN | apply below_drew1 | refine below_set ?_ GE514.out) | exact HB.out)⟩⟩
       ·rw [if_neg c20] at H
        have c20b0 : (t530 == t525) = false := beq_eq_false_iff_ne.mpr c20
        have c20b1 : (t530 != t525) = true := bne_iff_ne.mpr c20
        (first | rw [c20b0] | (simp only [i64_w, i32_w]; rw [c20b0]) | skip)
        have H' := Aside0.mk H
        clear H
        go_wp2
        go_meet
        case rel => exact ⟨_, (true), (by first | rfl | (simp; done) | (simp [*]; done)), H', ⟨by have := HK1.out; first | omega | exact Nat.le_refl _⟩, ⟨by refine zzr ?_; exact Kd.R_mono HO_5.out (fun _ hk => hk.2)⟩, ⟨by refine zzr ?_; exact Kd.R_mono HO529.out (fun _ hk => hk.2)⟩, ⟨by refine zzr ?_; exact HO_515002.out⟩, ⟨by refine zzk ?_; exact BK514.out⟩, ⟨by repeat (first | (with_reducible first | exact HB.out | apply below_alloc | apply pw_below_drewN | apply below_drew1 | refine below_set ?_ GE514.out) | exact HB.out)⟩⟩
      case rest =>
       clear HC17
       try clear c1
       try clear c2
       try clear p2
       try clear c4
       try clear c5
       try clear c5b0
       try clear c5b1
       try clear c6
       try clear c6b0
       try clear c6b1
       try clear c15
       try clear c15b0
       try clear c17
       try clear c18
       try clear c19
       try clear c20
       try clear c20b0
       try clear c20b1
       try clear hcz11_0 hcz11_1 hcz11_2 hcz11_3
       try clear hcz18_0 hcz18_1 hcz18_2 hcz18_3
       try clear hcz9_0 hcz9_1 hcz9_2 hcz9_3
       try clear hfz11_0 hfz11_1 hfz11_2 hfz11_3
       try clear hfz18_0 hfz18_1 hfz18_2 hfz18_3
       try clear hfz9_0 hfz9_1 hfz9_2 hfz9_3
       try clear p2
       obtain ⟨kq, x42_16, rfl, HA, HJ16, HO_5, HO_8, HO_515002, BK514, HB⟩ := hcut
       cases kq with
       | zero => exact absurd HA.out (by simp [whetstonelaw08_BlocksFind.j1])
       | succ kj16 =>
        have H := HA.out
        clear HA
        simp only [whetstonelaw08_BlocksFind.j1] at H
        by_cases c24 : x42_16 = true
        ·subst c24
         have H1 : (some false) = some r := by rw [if_pos rfl] at H; exact H
         clear H
         have H := H1
         clear H1
         obtain rfl := Option.some.inj H
         go_wp2
         go_ret
         exact ⟨by first | rfl | (simp [errW_none, errW_some] <;> rfl) | (simp only [← hji4]; first | rfl | (simp [errW_none, errW_some] <;> rfl)) | (simp [*, errW_none, errW_some] <;> rfl), by repeat (first | (with_reducible first | exact HB.out | apply below_alloc | apply pw_below_drewN | apply below_drew1 | refine below_set ?_ GE514.out) | exact HB.out)⟩
        ·replace c24 := Bool.eq_false_iff.mpr c24
         subst c24
         have H1 : (whetstonelaw08_BlocksFind.l1 kj16 (l1.take ((ji4) : Int).toNat) x5_1 t525 x7_1 t527 0 t515 t516 t517 t520) = some r := by rw [if_neg (show ¬ (false = true) by decide)] at H; exact H
         clear H
         have H := H1
         clear H1
         have H' := Aside0.mk H
         clear H
         go_wp2
         go_loopg [10] kj16 (fun kq v10 w' => ∃ (x8_3 : List (S40)) (x10_3 : Int), v10 = .int .i64 x10_3 ∧ Aside0 (whetstonelaw08_BlocksFind.l1 kq (l1.take ((ji4) : Int).toNat) x5_1 t525 x7_1 x8_3 x10_3 t515 t516 t517 t520 = some r) ∧ Aside0 (kq ≤ kj16) ∧ Aside0 (Kd.R k40 40 w' w.heap.size (fun k_ => some k_ ≠ (v528 : Value).ownBlock) v523 x5_1) ∧ Aside0 (Kd.R k40 40 w' w.heap.size (fun k_ => some k_ ≠ (v523 : Value).ownBlock) v528 x8_3) ∧ Aside0 (Kd.R (Kd.int .u32) 24 w' w.heap.size (fun _ => True) (.slice Ao12 t517.length co12) t517) ∧ Aside0 (w'.heap[gb514]? = some (.cells #[.int .u32 t515, .int .u32 t516, (.slice Ao12 t517.length co12), .int .i64 t520] 32 (0, 0))) ∧ Aside0 (Below w.heap.size w w'))
         case atStart => exact ⟨(t527), (0), (by first | rfl | (simp; done) | (simp [*]; done)), H', ⟨Nat.le_refl _⟩, ⟨by refine zzr ?_; exact HO_5.out⟩, ⟨by refine zzr ?_; exact HO_8.out⟩, ⟨by refine zzr ?_; exact HO_515002.out⟩, ⟨by refine zzk ?_; exact BK514.out⟩, ⟨by repeat (first | (with_reducible first | exact HB.out | apply below_alloc | apply pw_below_drewN | apply below_drew1 | refine below_set ?_ GE514.out) | exact HB.out)⟩⟩
         case round =>
          clear H'
          try clear c1
          try clear c2
          try clear p2
          try clear c4
          try clear c5
          try clear c5b0
          try clear c5b1
          try clear c6
          try clear c6b0
          try clear c6b1
          try clear c15
          try clear c15b0
          try clear c17
          try clear c18
          try clear c19
          try clear c20
          try clear c20b0
          try clear c20b1
          try clear c24
          try clear hcz11_0 hcz11_1 hcz11_2 hcz11_3
          try clear hcz18_0 hcz18_1 hcz18_2 hcz18_3
          try clear hcz9_0 hcz9_1 hcz9_2 hcz9_3
          try clear hfz11_0 hfz11_1 hfz11_2 hfz11_3
          try clear hfz18_0 hfz18_1 hfz18_2 hfz18_3
          try clear hfz9_0 hfz9_1 hfz9_2 hfz9_3
          try clear p2
          obtain ⟨x8_3, x10_3, rfl, HA, HK3, HO_5, HO_8, HO_515002, BK514, HB⟩ := hrel
          cases gk with
          | zero => exact absurd HA.out (by simp [whetstonelaw08_BlocksFind.l1])
          | succ k3 =>
           have H := HA.out
           clear HA
           simp only [whetstonelaw08_BlocksFind.l1] at H
           by_cases c25 : x10_3 < (x8_3.length : Int)
           ·rw [if_pos c25] at H
            have c25b0 : decide (x10_3 < (x8_3.length : Int)) = true := decide_eq_true c25
            clear c25
            by_cases c26 : 0 ≤ x10_3
            ·rw [if_pos c26] at H
             have c26b0 : decide (0 ≤ x10_3) = true := decide_eq_true c26
             clear c26
             obtain ⟨y532, hy532⟩ : ∃ y_ : List (S40), y_ = (x8_3.set (x10_3 : Int).toNat (⟨(rd_T40 x8_3 x10_3).f0, 0⟩ : S40)) := ⟨_, rfl⟩
             replace H : (whetstonelaw08_BlocksFind.l1 k3 (l1.take ((ji4) : Int).toNat) x5_1 t525 x7_1 y532 (wrap64 (x10_3 + 1)) t515 t516 t517 t520) = some r := by first | (rw [hy532]; with_reducible exact H) | (have H2_ := (Option.bind_some _ _).symm.trans H; rw [hy532]; with_reducible exact H2_) | (have H2_ := (Option.bind_some _ _).symm.trans H; with_reducible exact H2_) | with_reducible exact H | (rw [hy532]; exact H) | exact H
             have Ny532 := Aside0.mk hy532
             clear hy532
             have H' := Aside0.mk H
             clear H
             obtain ⟨Ao28, co28, eo28⟩ := Kd.R_slice HO_8.out
             subst eo28
             have p27 : 0 ≤ (x10_3 : Int) := of_decide_eq_true zzm
             have q27 : (x10_3 : Int) < ((x8_3.length : Int) : Int) := of_decide_eq_true zzm
             obtain ⟨go27, co27, eo27, gb27, gl27, cl27, HG27⟩ := Kd.R_form HO_8.out (by omega)
             (first | cases eo27 | (injection eo27 with ea_ en_ ec_; (first | subst ea_ | (injection ea_ with ea_; subst ea_)); subst ec_; clear en_))
             have GB27 := Aside0.mk gb27
             have GG27 := Aside0.mk HG27
             clear gb27 gl27 HG27
             obtain ⟨ce27, hcl27, hM27, hcc27, hfr27⟩ := Kd.R_elem HO_8.out z40 (x10_3 : Int) p27 q27
             obtain rfl := k40_openM hM27
             have hx27_0 : wr.cell? ⟨go27, (x10_3 : Int).toNat * 2, none⟩ = some (.int .u32 ((rd_T40 x8_3 x10_3).f0)) := hcc27 0 _ rfl
             have hx27_1 : wr.cell? ⟨go27, (x10_3 : Int).toNat * 2 + 1, none⟩ = some (.int .i64 ((rd_T40 x8_3 x10_3).f1)) := hcc27 1 _ rfl
             have hf27_0 : wr.frozen? ⟨go27, (x10_3 : Int).toNat * 2, none⟩ = false := hfr27 0
             have hf27_1 : wr.frozen? ⟨go27, (x10_3 : Int).toNat * 2 + 1, none⟩ = false := hfr27 1
             clear hcl27 hcc27 hfr27 hM27
             replace p27 := eq_true p27
             replace q27 := eq_true q27
             have HX29 := Aside0.mk (show Kd.R k40 40 wr w.heap.size (fun k_ => some k_ ≠ (v523 : Value).ownBlock) (.slice (some ⟨go27, 0, none⟩) x8_3.length co28) x8_3 from (zzr HO_8.out))
             obtain ⟨ce29, hcl29, hM29, hcc29, hfr29⟩ := Kd.R_elem HX29.out z40 (x10_3 : Int) (of_decide_eq_true zzm) (by have h_ : (x10_3 : Int) < ((x8_3.length : Int) : Int) := of_decide_eq_true zzm; first | exact h_ | (have e_ := (Kd.R_reads' HO_8.out).1; omega) | simpa using h_)
             obtain rfl := k40_openM hM29
             have HP29 := Kd.R_seg HX29.out (x10_3 : Int) (of_decide_eq_true zzm) (by have h_ : (x10_3 : Int) < ((x8_3.length : Int) : Int) := of_decide_eq_true zzm; first | exact h_ | (have e_ := (Kd.R_reads' HO_8.out).1; omega) | simpa using h_) (seg := [.int .i64 0]) (j := 1) hcl29 hcc29 (show 2 ≤ 2 from by decide) (x' := (⟨(rd_T40 x8_3 x10_3).f0, 0⟩ : S40)) (k40_mkM _ _ _ (⟨(rd_T40 x8_3 x10_3).f0, 0⟩ : S40) ) (fun _ hk => hk)
             have hx29_1 := hcc29 1 _ rfl
             (try simp only [show (k40).sz = 2 from rfl, Nat.mul_one, Nat.add_zero] at hx29_1)
             have hf29_1 := hfr29 1
             (try simp only [show (k40).sz = 2 from rfl, Nat.mul_one, Nat.add_zero] at hf29_1)
             clear hcl29 hcc29 hfr29 hM29
             go_wp2_with (first | ((with_reducible refine gate_store (t := 3) (p := 52) rfl ?_); refine store_event (t := 3) (p := 52) (v := ?vo_w30) (w1 := (wr.setCell ⟨go27, (x10_3 : Int).toNat * 2 + 1, none⟩ (.int .i64 0))) ?hg ?ho ?hn ?hr ?_; (case ho => rfl); (case hg => rfl); (case hn => rfl); (case hr => first | (go_simp; done) | (go_simp; rfl)); intro w30 hw; have hg : wr.grownBy w30 (some go27) := (by rw [hw]; exact HP29.2); have hp_ : Kd.R k40 40 w30 w.heap.size (fun k_ => some k_ ≠ (v523 : Value).ownBlock) (.slice (some ⟨go27, 0, none⟩) x8_3.length co28) y532 := (by rw [hw, Ny532.out]; exact HP29.1); clear HP29; have n0_ := Aside0.mk (Kd.R_after (v := (.slice (some ⟨go27, 0, none⟩) x8_3.length co28)) (v1 := (.slice (some ⟨go27, 0, none⟩) x8_3.length co28)) (ok := (fun _ => True)) (by refine zzr ?_; exact Kd.R_mono HO_5.out (fun _ hk => ⟨trivial, hk⟩)) hg (.inl rfl)); have n1_ := Aside0.mk (hp_); have n2_ := Aside0.mk (Kd.R_over' (v := (.slice (some ⟨go27, 0, none⟩) x8_3.length co28)) (zzr HO_515002.out) (Kd.R_typed HO_8.out) (by decide) hg); have n3_ := Aside0.mk (blk_grown (g := gb514) (o := .cells #[.int .u32 t515, .int .u32 t516, .slice Ao12 t517.length co12, .int .i64 t520] 32 (0, 0)) (zzk BK514.out) hg (Kd.R_ne HO_8.out BK514.out (by decide))); have n4_ := Aside0.mk ((by rw [hw]; exact below_set (HB.out) GB27.out : Below w.heap.size w w30)); clear HO_5; clear HO_8; clear HO_515002; clear BK514; clear HB; have HO_5 := n0_; have HO_8 := n1_; have HO_515002 := n2_; have BK514 := n3_; have HB := n4_; clear n0_ n1_ n2_ n3_ n4_; clear hg hw hp_))
             go_roundg k3
             case measure => have := HK1.out; have := HJ16.out; have := HK3.out; omega
             case rel => exact ⟨(y532), (wrap64 (x10_3 + 1)), (by first | rfl | (simp; done) | (simp [*]; done)), H', ⟨by have := HK1.out; have := HJ16.out; have := HK3.out; omega⟩, ⟨by refine zzr ?_; exact Kd.R_mono HO_5.out (fun _ hk => hk.2)⟩, ⟨by refine zzr ?_; exact HO_8.out⟩, ⟨by refine zzr ?_; exact HO_515002.out⟩, ⟨by refine zzk ?_; exact BK514.out⟩, ⟨by repeat (first | (with_reducible first | exact HB.out | apply below_alloc | apply pw_below_drewN | apply below_drew1 | refine below_set ?_ GE514.out) | exact HB.out)⟩⟩
            ·rw [if_neg c26] at H
             exact absurd H (by simp)
           ·rw [if_neg c25] at H
            have c25b0 : decide (x10_3 < (x8_3.length : Int)) = false := decide_eq_false c25
            clear c25
            have H' := Aside0.mk H
            clear H
            obtain ⟨Ao31, co31, eo31⟩ := Kd.R_slice HO_8.out
            subst eo31
            go_wp2
            go_roundg k3
            case measure => have := HK1.out; have := HJ16.out; have := HK3.out; omega
            case rel => exact ⟨(x5_1), (wrap64 (x7_1 + 1)), (by first | rfl | (simp; done) | (simp [*]; done)), H', ⟨by have := HK1.out; have := HJ16.out; have := HK3.out; omega⟩, ⟨by refine zzr ?_; exact Kd.R_mono HO_5.out (fun _ hk => trivial)⟩, ⟨by refine zzr ?_; exact HO_515002.out⟩, ⟨by refine zzk ?_; exact BK514.out⟩, ⟨by repeat (first | (with_reducible first | exact HB.out | apply below_alloc | apply pw_below_drewN | apply below_drew1 | refine below_set ?_ GE514.out) | exact HB.out)⟩⟩
     ·rw [if_neg c15] at H
      have c15b0 : decide (x7_1 < 2) = false := decide_eq_false c15
      clear c15
      replace H := Option.bind_eq_some_iff.mp H
      obtain ⟨t526, A320, H⟩ := H
      replace H : (some t526) = some r := H
      have A32 := Aside0.mk A320
      clear A320
      obtain rfl := Option.some.inj H
      go_wp2_with (first | ((with_reducible refine gate_callee (f := 11) rfl ?_); refine goesL_ (some 53) rfl rfl Try.func11 (by kernel_rfl) rfl #[] rfl zza ?_; (with_reducible refine (whetstonelaw08_fixed.calls  t526 _ A32.out).mono ?_); rintro e w33 ⟨rfl, hb⟩; refine ⟨_, rfl, ?_⟩; have n0_ := Aside0.mk (Kd.R_below (zzr HO_5.out) hb); have n1_ := Aside0.mk (Kd.R_below (zzr HO_515002.out) hb); have n2_ := Aside0.mk (zzkb BK514.out hb); have n3_ := Aside0.mk (below_step zzg hb); clear HO_5; clear HO_515002; clear BK514; clear HB; have HO_5 := n0_; have HO_515002 := n1_; have BK514 := n2_; have HB := n3_; clear n0_ n1_ n2_ n3_; (try clear hb); (try clear hb2); (try clear hk); (try clear hi)))
      go_ret
      exact ⟨by first | rfl | (simp [errW_none, errW_some] <;> rfl) | (simp only [← hji4]; first | rfl | (simp [errW_none, errW_some] <;> rfl)) | (simp [*, errW_none, errW_some] <;> rfl), by repeat (first | (with_reducible first | exact HB.out | apply below_alloc | apply pw_below_drewN | apply below_drew1 | refine below_set ?_ GE514.out) | exact HB.out)⟩
  ·rw [if_neg c6] at H
   exact absurd H (by simp)
 ·rw [if_neg c5] at H
  exact absurd H (by simp)
end Go.Proofs.Ytekenddkoahjgaa.Q
