import Derived.Test.YtcjbdfhofpfooaaZGA
import Derived.RangeFuncNested
import Derived.RangeFuncBound
import Derived.RangeFuncCalls
import Derived.RangeFuncLeaves
import Derived.RangeFuncBox
import Derived.RangeFuncMany
import Derived.RangeFuncOne
import Derived.Shelf.Abstract
import Derived.Shelf.RegionOpen
import Derived.WalkKit
import Derived.OwnWalkIn
import Derived.TacticsInMore
import Derived.RegionIn
import Derived.LoopNIn
import Derived.LoopIn
import Derived.Maps.AppendAt
import Derived.KernelRfl
import Derived.StillTailTactics
import Derived.Outline
import Derived.Lib.Hide
/- Layer 18: the walks of package grammar (part GB). -/
namespace Go.Proofs.Ytcjbdfhofpfooaa.Gm
open Go.RowKit Go.Maps Go.Shelf Go.Proofs
set_option linter.unusedVariables false
set_option linter.unusedSimpArgs false
attribute [local go_sem] Oper.semAt_some
/-! ## grammar.each: its iterator -/
def mkI (f op rd a b : Int) : In := if f = 82 then ⟨op, rd, a, b, 0⟩ else ⟨op, rd, a, 0, b⟩
def row3 (f op rd a : Int) (third : List Int) : List In := third.map (mkI f op rd a)
def row2 (f op rd : Int) (second third : List Int) : List In := second.flatMap fun a => row3 f op rd a third
def row1 (f op : Int) (regs second third : List Int) : List In := regs.flatMap fun rd => row2 f op rd second third
theorem flat_len {α : Type} (f : α → List In) (n : Nat) (l : List α) (h : ∀ x ∈ l, (f x).length ≤ n) : (l.flatMap f).length ≤ l.length * n := by
  induction l with
  | nil => simp
  | cons x l ih =>
    have h1 := h x (by simp)
    have h2 := ih (fun y hy => h y (by simp [hy]))
    simp only [List.flatMap_cons, List.length_append, List.length_cons, Nat.succ_mul]
    omega
theorem row1_len (f op : Int) (regs second third : List Int) (h1 : regs.length ≤ 100) (h2 : second.length ≤ 100) (h3 : third.length ≤ 100) : (row1 f op regs second third).length ≤ 1000000 := by
  have q2 : ∀ rd, (row2 f op rd second third).length ≤ 10000 := fun rd => by
    have := flat_len (fun a => row3 f op rd a third) 100 second (fun a _ => by simpa [row3] using h3)
    have h : second.length * 100 ≤ 100 * 100 := Nat.mul_le_mul_right _ h2
    unfold row2; omega
  have := flat_len (fun rd => row2 f op rd second third) 10000 regs (fun rd _ => q2 rd)
  have h : regs.length * 10000 ≤ 100 * 10000 := Nat.mul_le_mul_right _ h1
  unfold row1; omega
theorem take_flat {α : Type} (f : α → List In) (l : List α) (k : Nat) (x : α) (h : l[k]? = some x) : (l.take (k + 1)).flatMap f = (l.take k).flatMap f ++ f x := by
  rw [List.take_add_one, h]; simp
theorem take_map {α : Type} (f : α → In) (l : List α) (k : Nat) (x : α) (h : l[k]? = some x) : (l.take (k + 1)).map f = (l.take k).map f ++ [f x] := by
  rw [List.take_add_one, h]; simp
theorem flat_prefix {α : Type} (f : α → List In) (l : List α) (k : Nat) (x : α) (p : List In) (h : l[k]? = some x) (hp : p <+: f x) : (l.take k).flatMap f ++ p <+: l.flatMap f := by
  have e : l = l.take k ++ l.drop k := (List.take_append_drop k l).symm
  have e2 : l.drop k = x :: l.drop (k + 1) := by
    obtain ⟨hk, hx⟩ := List.getElem?_eq_some_iff.1 h
    rw [List.drop_eq_getElem_cons hk, hx]
  obtain ⟨t, ht⟩ := hp
  refine ⟨t ++ (l.drop (k + 1)).flatMap f, ?_⟩
  rw [← List.append_assoc, List.append_assoc _ p t, ht]
  conv => rhs; rw [e, e2]
  simp
theorem map_prefix {α : Type} (f : α → In) (l : List α) (k : Nat) : (l.take k).map f <+: l.map f := List.IsPrefix.map f (List.take_prefix k l)
set_option maxRecDepth 100000 in
set_option maxHeartbeats 4000000 in
theorem each1_in (F : Fence) (n : Nat) (h58 : F.fn 58) (hro : F.round = none) (hn : 1 ≤ n) (l bg b2 b3 bo bf : Nat) (S : Nat → Prop) (vr vs vt : Value) (regs second third : List Int) (f op : Int)
    (hl1 : regs.length ≤ 100) (hl2 : second.length ≤ 100) (hl3 : third.length ≤ 100)
    (J Jx : List In → World → Prop) (hJ : ∀ s W (o : Obj), J s W → J s (W.alloc o))
    (hY : ∀ pre x W, J pre W → pre.length < 1000000000 → YieldAt F (n - 1) Try.prog l #[ia x] W fun e W' =>
      (e = .returned (.bool true) ∧ J (pre ++ [x]) W' ∧ KeepS S W W') ∨ (e = .returned (.bool false) ∧ Jx (pre ++ [x]) W'))
    (W : World) (hSW : ∀ b, S b → b < W.heap.size) (hg0 : W.cell? ⟨bg, 1, none⟩ = some vr) (hg2 : W.cell? ⟨b2, 0, none⟩ = some vs) (hg3 : W.cell? ⟨b3, 0, none⟩ = some vt) (hgo : W.cell? ⟨bo, 0, none⟩ = some (.int .i64 op)) (hgf : W.cell? ⟨bf, 0, none⟩ = some (.int .u8 f))
    (lg : S bg) (l2 : S b2) (l3 : S b3) (lo : S bo) (lf : S bf)
    (hR : ReadS S W vr regs) (hS : ReadS S W vs second) (hT : ReadS S W vt third) (h0 : J [] W) :
    CallsIn F n Try.prog 58 #[.func (.yield l) #[] #[], .pointer (some ⟨bg, 0, none⟩), .pointer (some ⟨b2, 0, none⟩), .pointer (some ⟨b3, 0, none⟩), .pointer (some ⟨bo, 0, none⟩), .pointer (some ⟨bf, 0, none⟩)] W fun e W' => (∃ v, e = .returned v) ∧
      ((∃ ys, ys = row1 f op regs second third ∧ J ys W') ∨ (∃ pre, pre <+: row1 f op regs second third ∧ Jx pre W')) := by
  obtain ⟨o1, c1, rfl, hr⟩ := hR
  obtain ⟨o2, c2, rfl, hs⟩ := hS
  obtain ⟨o3, c3, rfl, ht⟩ := hT
  have HR := Lib.hid hr; have HS := Lib.hid hs; have HT := Lib.hid ht; have HJ := Lib.hid hJ
  have HL := Lib.hid (row1_len f op regs second third hl1 hl2 hl3)
  have HY := Lib.hid hY
  clear hr hs ht hJ hY
  refine callsIn_of_wp Try.func58 rfl h58 ?_ hro
  simp only [Try.ntmps58, List.size_toArray, List.length_cons, List.length_nil, Nat.reduceAdd, Nat.reduceSub, Array.replicate_succ, Array.replicate_zero, List.push_toArray, List.append_toArray, List.nil_append, List.cons_append]
  gi_wp2
  gi_loopw [17] (fun s wr => ∃ i : Nat, i ≤ regs.length ∧ s = .int .i64 i ∧ J ((regs.take i).flatMap fun rd => row2 f op rd second third) wr ∧ KeepS S W wr) (fun s _ => regs.length - (intOf s).toNat)
  case atStart => exact ⟨0, Nat.zero_le _, rfl, h0, KeepS.refl _ _⟩
  case round =>
    obtain ⟨i, hi, rfl, hJi, hB⟩ := hrel
    have HJi := Lib.hid hJi
    clear hJi
    by_cases hlt : i < regs.length
    · obtain ⟨x, hx⟩ : ∃ x, regs[i]? = some x := ⟨_, List.getElem?_eq_getElem hlt⟩
      obtain ⟨rb, ro, e, hrb, hrc⟩ := HR.out (fun h => by rw [h] at hlt; cases hlt)
      subst e
      have q1 := (hB.cell hrb (ro + i)).trans (hrc i x hx)
      have q2 := (hB.cell l2 0).trans hg2
      have HX := Lib.hid hx
      clear hx hrc
      obtain ⟨w0, rfl⟩ : ∃ w0 : World, w0 = wr := ⟨_, rfl⟩
      gi_wp2
      gi_loopw [23] (fun s wr => ∃ j : Nat, j ≤ second.length ∧ s = .int .i64 j ∧ J (((regs.take i).flatMap fun rd => row2 f op rd second third) ++ (second.take j).flatMap fun a => row3 f op x a third) wr ∧ KeepS S W wr) (fun s _ => second.length - (intOf s).toNat)
      case atStart => exact ⟨0, Nat.zero_le _, rfl, by simpa using HJi.out, hB⟩
      case round =>
        obtain ⟨j, hj, rfl, hJj, hB1⟩ := hrel
        have HJj := Lib.hid hJj
        clear hJj
        by_cases hlt2 : j < second.length
        · obtain ⟨y, hy⟩ : ∃ y, second[j]? = some y := ⟨_, List.getElem?_eq_getElem hlt2⟩
          obtain ⟨sb, so, e, hsb, hsc⟩ := HS.out (fun h => by rw [h] at hlt2; cases hlt2)
          subst e
          have q3 := (hB1.cell hsb (so + j)).trans (hsc j y hy)
          have q4 := (hB1.cell l3 0).trans hg3
          have HY2 := Lib.hid hy
          clear hy hsc
          clear q1 q2
          obtain ⟨w1, rfl⟩ : ∃ w1 : World, w1 = wr := ⟨_, rfl⟩
          gi_wp2
          gi_loopw [29] (fun s wr => ∃ k : Nat, k ≤ third.length ∧ s = .int .i64 k ∧ J ((((regs.take i).flatMap fun rd => row2 f op rd second third) ++ (second.take j).flatMap fun a => row3 f op x a third) ++ (third.take k).map (mkI f op x y)) wr ∧ KeepS S W wr) (fun s _ => third.length - (intOf s).toNat)
          case atStart => exact ⟨0, Nat.zero_le _, rfl, by simpa using HJj.out, hB1⟩
          case round =>
            obtain ⟨k, hk, rfl, hJk, hB2⟩ := hrel
            have HJk := Lib.hid hJk
            clear hJk
            by_cases hlt3 : k < third.length
            · obtain ⟨z, hz⟩ : ∃ z, third[k]? = some z := ⟨_, List.getElem?_eq_getElem hlt3⟩
              obtain ⟨tb, to_, e, htb, htc⟩ := HT.out (fun h => by rw [h] at hlt3; cases hlt3)
              subst e
              have q5 := (hB2.cell htb (to_ + k)).trans (htc k z hz)
              have q6 := (hB2.cell lo 0).trans hgo
              have q7 := (hB2.cell lf 0).trans hgf
              have hbf : bf < wr.heap.size := hB2.lt hSW bf lf
              have HZ := Lib.hid hz
              clear hz htc q3 q4
              obtain ⟨P, hP⟩ : ∃ P, P = ((((regs.take i).flatMap fun rd => row2 f op rd second third) ++ (second.take j).flatMap fun a => row3 f op x a third) ++ (third.take k).map (mkI f op x y)) := ⟨_, rfl⟩
              have hpre : P ++ [mkI f op x y z] <+: row1 f op regs second third := by
                rw [hP, List.append_assoc, ← take_map _ _ _ _ HZ.out, List.append_assoc]
                exact flat_prefix (fun rd => row2 f op rd second third) regs i x _ HX.out (flat_prefix (fun a => row3 f op x a third) second j y _ HY2.out (map_prefix _ _ _))
              have hlen : P.length < 1000000000 := by have := hpre.length_le; have := HL.out; simp at *; omega
              have HP := Lib.hid hP
              have HPR := Lib.hid hpre
              have HJ1 : Hid (J P wr) := Lib.hid (by rw [HP.out]; exact HJk.out)
              clear hP hpre HJk
              have HF : Hid (P ++ [mkI f op x y z] = (((regs.take i).flatMap fun rd => row2 f op rd second third) ++ (second.take j).flatMap fun a => row3 f op x a third) ++ (third.take (k + 1)).map (mkI f op x y)) := Lib.hid (by rw [HP.out, take_map _ _ _ _ HZ.out, List.append_assoc _ _ [mkI f op x y z]])
              by_cases hf : f = 82
              · subst hf
                obtain ⟨fn, tmps, assign, body, hy, hRun⟩ := HY.out P ⟨op, x, y, z, 0⟩ (wr.alloc (.cells #[.int .i64 op, .int .i64 x, .int .i64 y, .int .i64 z, .int .i64 0] 25)) (HJ.out _ _ _ HJ1.out) hlen
                have HM : Hid (mkI 82 op x y z = ⟨op, x, y, z, 0⟩) := Lib.hid (by unfold mkI; rw [if_pos rfl])
                gi_wp2
                refine hRun.mono ?_
                rintro e W3 (⟨rfl, hJ3, hk3⟩ | ⟨rfl, hJx3⟩)
                · have hb3 := (hB2.alloc hSW _).trans hk3
                  have HJ3 := Lib.hid hJ3
                  clear hJ3 hRun hk3
                  gi_wp2
                  go_roundw
                  case rel => exact ⟨k + 1, by omega, by go_num, by rw [← HF.out, HM.out]; exact HJ3.out, hb3⟩
                  case measure => simp [intOf]; omega
                · have HJ3 := Lib.hid hJx3
                  clear hJx3 hRun
                  gi_wp2
                  refine bodyPost_ret (results_none rfl _ _ _) rfl ?_
                  exact ⟨⟨_, rfl⟩, .inr ⟨_, by rw [← HM.out]; exact HPR.out, HJ3.out⟩⟩
              · have hf2 : ((f : Int) == 82) = false := beq_eq_false_iff_ne.mpr hf
                have hm : mkI f op x y z = ⟨op, x, y, 0, z⟩ := by unfold mkI; rw [if_neg hf]
                obtain ⟨fn, tmps, assign, body, hy, hRun⟩ := HY.out P ⟨op, x, y, 0, z⟩ (wr.alloc (.cells #[.int .i64 op, .int .i64 x, .int .i64 y, .int .i64 0, .int .i64 z] 25)) (HJ.out _ _ _ HJ1.out) hlen
                have HM := Lib.hid hm
                clear hm hf
                gi_wp2
                refine hRun.mono ?_
                rintro e W3 (⟨rfl, hJ3, hk3⟩ | ⟨rfl, hJx3⟩)
                · have hb3 := (hB2.alloc hSW _).trans hk3
                  have HJ3 := Lib.hid hJ3
                  clear hJ3 hRun hk3
                  gi_wp2
                  go_roundw
                  case rel => exact ⟨k + 1, by omega, by go_num, by rw [← HF.out, HM.out]; exact HJ3.out, hb3⟩
                  case measure => simp [intOf]; omega
                · have HJ3 := Lib.hid hJx3
                  clear hJx3 hRun
                  gi_wp2
                  refine bodyPost_ret (results_none rfl _ _ _) rfl ?_
                  exact ⟨⟨_, rfl⟩, .inr ⟨_, by rw [← HM.out]; exact HPR.out, HJ3.out⟩⟩
            · obtain rfl : k = third.length := by omega
              rw [List.take_length] at HJk
              have HJ4 : Hid (J (((regs.take i).flatMap fun rd => row2 f op rd second third) ++ (second.take (j + 1)).flatMap fun a => row3 f op x a third) wr) := Lib.hid (by rw [take_flat _ _ _ _ HY2.out, ← List.append_assoc]; exact HJk.out)
              clear HJk
              gi_wp2
              go_roundw
              case rel => exact ⟨j + 1, by omega, by go_num, HJ4.out, hB2⟩
              case measure => simp [intOf]; omega
        · obtain rfl : j = second.length := by omega
          rw [List.take_length] at HJj
          have HJ4 : Hid (J ((regs.take (i + 1)).flatMap fun rd => row2 f op rd second third) wr) := Lib.hid (by rw [take_flat _ _ _ _ HX.out]; exact HJj.out)
          clear HJj
          gi_wp2
          go_roundw
          case rel => exact ⟨i + 1, by omega, by go_num, HJ4.out, hB1⟩
          case measure => simp [intOf]; omega
    · obtain rfl : i = regs.length := by omega
      rw [List.take_length] at HJi
      gi_wp2
      go_end0
      exact ⟨⟨_, rfl⟩, .inl ⟨_, rfl, HJi.out⟩⟩

end Go.Proofs.Ytcjbdfhofpfooaa.Gm
