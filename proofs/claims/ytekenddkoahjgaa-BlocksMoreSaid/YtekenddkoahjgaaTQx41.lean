import Derived.Test.YtekenddkoahjgaaTQx0
import Derived.Test.YtekenddkoahjgaaTQx28
import Derived.Test.YtekenddkoahjgaaTQx30
namespace Go.Proofs.Ytekenddkoahjgaa.Q
open Go.RowKit Go.Proofs.YtekenddkoahjgaaW.PrintWords Go.Proofs.YtekenddkoahjgaaW.PrintLast Go.Proofs.YtekenddkoahjgaaW.PrintMore
attribute [local go_sem] max2_int min2_int max_two min_two max_three min_three max_four min_four   -- for this text's walks alone
attribute [local go_sem] imax_u32 imax_u8 isg_u32 isg_u8
set_option linter.unusedVariables false
set_option linter.unusedSimpArgs false
def whetstonelaw08_Text.f (a0_0 : Int) (a0_1 : Int) (l0_2 : List Int) (a0_3 : Int) : Option (Int × Int × List Int × Int) := if ∀ x ∈ l0_2, 0 ≤ x then some (Go.bits .and .u32 a0_0 4294963200, a0_1, l0_2.take 40, 0) else none
theorem cast_nat (l : List Int) (h : ∀ x ∈ l, 0 ≤ x) (n : Nat) : castL ((natL l).take n) = l.take n := by
 unfold castL natL
 rw [← List.map_take, List.map_map]
 refine (List.map_congr_left fun x hx => ?_).trans (List.map_id' _)
 exact Int.toNat_of_nonneg (h x (List.mem_of_mem_take hx))
theorem whetstonelaw08_Text.calls (a0_0 : Int) (a0_1 : Int) (A0_2 : Option Addr) (c0_2 : Nat) (l0_2 : List Int) (a0_3 : Int) (r1 : Int) (r2 : Int) (r3 : List Int) (r4 : Int) (w : World) (hr0_2 : Kd.C (Kd.int .u32) w A0_2 l0_2.length l0_2) (hc0_2 : l0_2.length ≤ c0_2) (h : whetstonelaw08_Text.f a0_0 a0_1 l0_2 a0_3 = some (r1, r2, r3, r4)) :
  Calls Try.prog 17 #[.agg #[.int .u32 a0_0, .int .u32 a0_1, .slice A0_2 l0_2.length c0_2, .int .i64 a0_3]] w fun e w' => ∃ v2_ : Value, e = .returned (.agg #[.int .u32 r1, .int .u32 r2, v2_, .int .i64 r4]) ∧ Kd.R (Kd.int .u32) 24 w' w.heap.size (fun _ => True) v2_ r3 ∧ Below w.heap.size w w' := by
 unfold whetstonelaw08_Text.f at h
 split at h
 ·rename_i hs
  simp only [Option.some.injEq, Prod.mk.injEq] at h
  obtain ⟨rfl, rfl, rfl, rfl⟩ := h
  refine (Bl.Text_calls a0_0 a0_1 A0_2 l0_2.length c0_2 a0_3 (natL l0_2) (by simp [natL]) hc0_2 w (RdU_of hr0_2 hs)).mono ?_
  rintro e w' ⟨v, rfl, hO, hb⟩
  refine ⟨v, rfl, ?_, hb⟩
  have := R_of_U hO
  rw [cast_nat l0_2 hs 40] at this
  exact this
 ·cases h
end Go.Proofs.Ytekenddkoahjgaa.Q
