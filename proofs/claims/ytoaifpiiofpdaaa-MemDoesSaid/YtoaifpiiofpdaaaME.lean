import Derived.Test.YtoaifpiiofpdaaaMC
import Derived.WalkKit
import Derived.KernelRfl
import Derived.Below
import Derived.Outline
import Derived.LoopTactic
import Derived.Maps.Own
import Derived.Maps.OwnOps
import Derived.Maps.OwnSet
import Derived.Maps.Views
import Derived.Maps.AppendAt
import Derived.Laws.BitsLemmas
import Derived.Laws.BitsAllLaws
import Derived.Deep.LoopGhost
import Derived.Lib.Hide
import Derived.Deep.QuietTactic
import Derived.BigQuiet
import Derived.Deep.Draws
import Derived.Laws.StructEq
import Derived.RangeFuncBox
import Derived.OwnWalk
import Derived.Laws.OwnMore
import Derived.Laws.BytesArg
import Derived.Laws.MakeOwn
namespace Go.Proofs.Ytoaifpiiofpdaaa.Mm
open Go.RowKit Go.Maps Go.Proofs
set_option linter.unusedVariables false
set_option linter.unusedSimpArgs false
/-! ### Same -/
theorem own_opt {w : World} {base : Nat} {v : Value} {l : List (Nat × Nat)} (h : OwnC w base v l) : ∃ o cap, v = .slice o l.length cap ∧ (0 < l.length → ∃ g, o = some ⟨g, 0, none⟩) := by
  rcases h.2 with ⟨h1, h2⟩ | ⟨g, cap, cur, e, _⟩
  · exact ⟨none, 0, by rw [h1, h2], fun h => by omega⟩
  · exact ⟨_, cap, e, fun _ => ⟨g, rfl⟩⟩
theorem cast_ne (a b : Nat) : ((a : Int) == (b : Int)) = decide (a = b) := by
  by_cases h : a = b
  · simp [h]
  · rw [decide_eq_false h]; exact beq_eq_false_iff_ne.mpr (by omega)
set_option maxHeartbeats 1600000 in
theorem Same_calls (ba bb : Nat) (va vb : Value) (l m : List (Nat × Nat)) (w : World) (ha : OwnC w ba va l) (hb : OwnC w bb vb m) (hl : l.length < 1000000000) (hm : m.length < 1000000000) :
    Calls Try.prog 11 #[va, vb] w fun e w' => e = .returned (.bool (decide (l = m))) ∧ ∃ n, w' = w.drewN n := by
  obtain ⟨oa, ca, rfl, hoa⟩ := own_opt ha
  obtain ⟨ob, cb, rfl, hob⟩ := own_opt hb
  obtain ⟨N, hN⟩ : ∃ N, N = l.length := ⟨_, rfl⟩
  obtain ⟨M, hM⟩ : ∃ M, M = m.length := ⟨_, rfl⟩
  rw [← hN] at ha hoa hl ⊢
  rw [← hM] at hb hob hm ⊢
  have HA := Lib.hid ha
  have HB := Lib.hid hb
  have HN := Lib.hid hN
  have HM := Lib.hid hM
  have HOA := Lib.hid hoa
  have HOB := Lib.hid hob
  clear ha hb hN hM hoa hob
  by_cases hnm : N = M
  · subst hnm
    go_enter Try.func11, Try.ntmps11
    go_wp2
    go_loopw [5] (fun i wr => ∃ j n : Nat, j ≤ N ∧ i = .int .i64 j ∧ l.take j = m.take j ∧ wr = w.drewN n) (fun i _ => N - (intOf i).toNat)
    case atStart => exact ⟨0, 0, Nat.zero_le _, rfl, rfl, rfl⟩
    case round =>
      obtain ⟨j, n, hj, rfl, ht, rfl⟩ := hrel
      by_cases hlt : j < N
      · obtain ⟨g, rfl⟩ := HOA.out (by omega)
        obtain ⟨g2, rfl⟩ := HOB.out (by omega)
        have hjl : j < l.length := by rw [← HN.out]; exact hlt
        have hjm : j < m.length := by rw [← HM.out]; exact hlt
        obtain ⟨x, hx⟩ : ∃ x, l[j]? = some x := ⟨_, List.getElem?_eq_getElem hjl⟩
        obtain ⟨y, hy⟩ : ∃ y, m[j]? = some y := ⟨_, List.getElem?_eq_getElem hjm⟩
        obtain ⟨c1, c2⟩ := HA.out.cell HN.out j x hx
        obtain ⟨d1, d2⟩ := HB.out.cell HM.out j y hy
        obtain ⟨x1, x2⟩ := x
        obtain ⟨y1, y2⟩ := y
        have HT := Lib.hid ht
        have HX := Lib.hid hx
        have HY := Lib.hid hy
        clear ht hx hy hjl hjm
        have hu := Try.underlying42
        have e1 : ((x1 : Int) == (y1 : Int)) = decide (x1 = y1) := cast_ne x1 y1
        have e2 : ((x2 : Int) == (y2 : Int)) = decide (x2 = y2) := cast_ne x2 y2
        by_cases hq : x1 = y1 ∧ x2 = y2
        · rw [decide_eq_true hq.1] at e1
          rw [decide_eq_true hq.2] at e2
          have HQ := Lib.hid hq
          clear hq
          go_wp2
          go_quiet (fail)
          go_wp2
          refine ⟨⟨j + 1, _, hlt, by go_num, ?_, rfl⟩, by simp [intOf]; omega⟩
          rw [List.take_add_one, List.take_add_one, HX.out, HY.out, HT.out, HQ.out.1, HQ.out.2]
        · have hne : decide (l = m) = false := by
            refine decide_eq_false (fun h => hq ?_)
            have h1 := HX.out
            rw [h, HY.out] at h1
            cases h1
            exact ⟨rfl, rfl⟩
          have HNE := Lib.hid hne
          by_cases h1 : x1 = y1
          · rw [decide_eq_true h1] at e1
            rw [decide_eq_false (fun h => hq ⟨h1, h⟩)] at e2
            clear hq h1 hne
            go_wp2
            go_quiet (fail)
            go_wp2
            go_ret
            exact ⟨congrArg (fun b => Ending.returned (.bool b)) HNE.out.symm, _, by first | exact World.drewN_drewN | exact World.drewN_drewN _ _ _ | rw [World.drewN_drewN]⟩
          · rw [decide_eq_false h1] at e1
            clear hq h1 hne e2
            go_wp2
            go_quiet (fail)
            go_wp2
            go_ret
            exact ⟨congrArg (fun b => Ending.returned (.bool b)) HNE.out.symm, _, by first | exact World.drewN_drewN | exact World.drewN_drewN _ _ _ | rw [World.drewN_drewN]⟩
      · have hjN : j = N := by omega
        have he : decide (l = m) = true := by
          refine decide_eq_true ?_
          rw [List.take_of_length_le (by rw [← HN.out]; omega), List.take_of_length_le (by rw [← HM.out]; omega)] at ht
          exact ht
        have HE := Lib.hid he
        subst hjN
        clear ht he
        go_wp2
        go_ret
        exact ⟨congrArg (fun b => Ending.returned (.bool b)) HE.out.symm, _, rfl⟩
  · have he : decide (l = m) = false := decide_eq_false (fun h => hnm (by rw [HN.out, HM.out, h]))
    rw [he]
    have hb : ((N : Int) == (M : Int)) = false := by rw [cast_ne]; exact decide_eq_false hnm
    clear he hnm
    go_enter Try.func11, Try.ntmps11
    go_wp2
    go_ret
    exact ⟨rfl, 0, rfl⟩
end Go.Proofs.Ytoaifpiiofpdaaa.Mm
