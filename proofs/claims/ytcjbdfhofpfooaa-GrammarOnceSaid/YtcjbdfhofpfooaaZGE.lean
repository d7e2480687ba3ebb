import Derived.Test.YtcjbdfhofpfooaaZGD
import Derived.RangeFuncNested
import Derived.RangeFuncBound
import Derived.RangeFuncCalls
import Derived.RangeFuncLeaves
import Derived.RangeFuncBox
import Derived.Maps.OwnIn
import Derived.RangeFuncMany
import Derived.RangeFuncOne
import Derived.Shelf.Abstract
import Derived.Shelf.RegionOpen
import Derived.WalkKit
import Derived.OwnWalkIn
import Derived.TacticsInMore
import Derived.RegionIn
import Derived.LoopNIn
import Derived.LoopIn
import Derived.Maps.AppendAt
import Derived.KernelRfl
import Derived.StillTailTactics
import Derived.Outline
import Derived.RegionTactic
import Derived.ChangeAlike
import Derived.BigRegion
import Derived.Deep.RegionWith
import Derived.LoopTactic
import Derived.BigQuiet
import Derived.Lib.Hide
/- Layer 18: the walks of package grammar (part GE). -/
namespace Go.Proofs.Ytcjbdfhofpfooaa.Gm
open Go.RowKit Go.Maps Go.Shelf Go.Proofs
set_option linter.unusedVariables false
set_option linter.unusedSimpArgs false
attribute [local go_sem] Oper.semAt_some
/-! ## slices.ContainsFunc, grammar.Check -/
def FnB (g : Nat) (p : Int → Bool) : Prop := ∀ (x : Int) (w : World), Calls Try.prog g #[.int .i64 x] w fun e w' => e = .returned (.bool (p x)) ∧ Below w.heap.size w w'
def far (r : Int) : Bool := decide (r < 0 ∨ 32 ≤ r)
theorem any_take {p : Int → Bool} {l : List Int} {j : Nat} {x : Int} (hx : l[j]? = some x) (h : (l.take j).any p = false) (hp : p x = false) : (l.take (j + 1)).any p = false := by
  rw [List.take_add_one, hx, List.any_append, h]; simp [hp]
set_option maxHeartbeats 1600000 in
theorem IndexFunc_calls (g : Nat) (eg : ∀ args w, (callFunc g args).run Try.prog w = .ok (.enter g args) w) (p : Int → Bool) (hp : FnB g p) (o : Option Addr) (cap : Nat) (l : List Int) (w : World) (h : ReadN w.heap.size w (.slice o l.length cap) l) (hl : l.length < 1000000000) :
    Calls Try.prog 54 #[.slice o l.length cap, .func (.func g) #[] #[]] w fun e w' => ∃ i : Int, e = .returned (.int .i64 i) ∧ l.any p = decide (0 ≤ i) ∧ Below w.heap.size w w' := by
  have HP := Lib.hid hp
  obtain ⟨o', cap', e, hc⟩ := h
  obtain ⟨rfl, rfl⟩ : o = o' ∧ cap = cap' := by cases e; exact ⟨rfl, rfl⟩
  have HC := Lib.hid hc
  have HE := Lib.hid eg
  obtain ⟨N, hN⟩ : ∃ N, N = l.length := ⟨_, rfl⟩
  rw [← hN] at hl ⊢
  have HN := Lib.hid hN
  clear hc e hp eg hN
  go_enter Try.func54, Try.ntmps54
  go_wp2
  go_loopw [8] (fun s wr => ∃ j : Nat, j ≤ N ∧ s = .int .i64 j ∧ (l.take j).any p = false ∧ Below w.heap.size w wr) (fun s _ => N - (intOf s).toNat)
  case atStart => exact ⟨0, Nat.zero_le _, rfl, by simp, Below.refl _ _⟩
  case round =>
    obtain ⟨j, hj, rfl, ha, hB⟩ := hrel
    have HA := Lib.hid ha
    clear ha
    by_cases hlt : j < N
    · obtain ⟨x, hx⟩ : ∃ x, l[j]? = some x := ⟨_, List.getElem?_eq_getElem (by rw [← HN.out]; exact hlt)⟩
      obtain ⟨b, off, e, hb, hcc⟩ := HC.out (fun h => by rw [HN.out, h] at hlt; cases hlt)
      subst e
      have q := (hB.cell (p := ⟨b, off + j, none⟩) hb).trans (hcc j x hx)
      have HX := Lib.hid hx
      clear hx hcc
      by_cases hpx : p x = true
      · have HR : Hid (∀ w : World, Calls Try.prog g #[.int .i64 x] w fun e w' => e = .returned (.bool true) ∧ Below w.heap.size w w') := Lib.hid (fun w => by have := HP.out x w; rw [hpx] at this; exact this)
        have HPX := Lib.hid hpx
        clear hpx
        have he := HE.out
        go_wp2
        refine (HR.out _).mono ?_
        rintro e w1 ⟨rfl, hb⟩
        go_wp2
        go_ret
        refine ⟨_, rfl, ?_, hB.trans (hb.mono hB.size)⟩
        rw [decide_eq_true (by omega), List.any_eq_true]
        exact ⟨x, List.mem_of_getElem? HX.out, HPX.out⟩
      · have hpf : p x = false := by simpa using hpx
        have HR : Hid (∀ w : World, Calls Try.prog g #[.int .i64 x] w fun e w' => e = .returned (.bool false) ∧ Below w.heap.size w w') := Lib.hid (fun w => by have := HP.out x w; rw [hpf] at this; exact this)
        have HPX := Lib.hid hpf
        clear hpx hpf
        have he := HE.out
        go_wp2
        refine (HR.out _).mono ?_
        rintro e w1 ⟨rfl, hb⟩
        clear he
        go_wp2
        go_roundw
        case rel => exact ⟨j + 1, hlt, by go_num, any_take HX.out HA.out HPX.out, hB.trans (hb.mono hB.size)⟩
        case measure => simp [intOf]; omega
    · obtain rfl : j = N := by omega
      go_wp2
      go_ret
      refine ⟨_, rfl, ?_, hB⟩
      have := HA.out
      rw [List.take_of_length_le (by rw [HN.out]; omega)] at this
      rw [this]; rfl
theorem ContainsFunc_calls (g : Nat) (eg : ∀ args w, (callFunc g args).run Try.prog w = .ok (.enter g args) w) (p : Int → Bool) (hp : FnB g p) (o : Option Addr) (cap n : Nat) (l : List Int) (w : World) (hn : n = l.length) (h : ReadN w.heap.size w (.slice o n cap) l) (hl : l.length < 1000000000) :
    Calls Try.prog 40 #[.slice o n cap, .func (.func g) #[] #[]] w fun e w' => e = .returned (.bool (l.any p)) ∧ Below w.heap.size w w' := by
  subst hn
  have HI := Lib.hid (IndexFunc_calls g eg p hp o cap l w h hl)
  clear hp eg h
  generalize l.length = N at *
  go_enter Try.func40, Try.ntmps40
  go_wp2_with (go_at_call 54; refine hold_ ?_)
  intro _
  refine HI.out.mono ?_
  rintro e w1 ⟨i, rfl, he, hb⟩
  have HE := Lib.hid he
  clear he
  go_wp2
  go_ret
  exact ⟨by rw [HE.out]; rfl, hb⟩
def KindC (knd : Int → Bool) : Prop := ∀ (op : Int) (w : World), Calls Try.prog 38 #[.int .i64 op] w fun e w' => e = .returned (.bool (knd op)) ∧ Below w.heap.size w w'
theorem odd_calls (knd : Int → Bool) (hk : KindC knd) : FnB 37 (fun op => !knd op) := by
  intro x w
  have HK := Lib.hid (hk x w)
  generalize hb : knd x = b at *
  have HB := Lib.hid hb
  show Calls _ _ _ _ fun e w' => e = .returned (.bool (!knd x)) ∧ _
  rw [hb]
  clear hb hk
  go_enter Try.func37, Try.ntmps37
  go_wp2_with (go_at_call 38; refine hold_ ?_)
  intro _
  refine HK.out.mono ?_
  rintro e w1 ⟨rfl, hb⟩
  go_wp2
  go_ret
  exact ⟨rfl, hb⟩
theorem far_calls : FnB 39 far := by
  intro x w
  unfold far
  by_cases h0 : x < 0
  · rw [decide_eq_true (Or.inl h0)]
    go_enter Try.func39, Try.ntmps39
    go_wp2
    go_ret
    exact ⟨rfl, Below.refl _ _⟩
  · by_cases h1 : 32 ≤ x
    · rw [decide_eq_true (Or.inr h1)]
      go_enter Try.func39, Try.ntmps39
      go_wp2
      go_ret
      exact ⟨rfl, Below.refl _ _⟩
    · rw [decide_eq_false (by omega)]
      go_enter Try.func39, Try.ntmps39
      go_wp2
      go_ret
      exact ⟨rfl, Below.refl _ _⟩
/-- What Check answers. -/
def chkv (frm : Int → Int) (rgt : In → Bool) (knd : Int → Bool) (ops regs imms : List Int) (len : Int) : Int :=
  if ops.any (fun op => !knd op) = true ∨ regs.any far = true ∨ len < 0 ∨ 3 < len then 180 else if 4096 < (allL frm rgt ops regs imms).length then 2 else 0
set_option maxHeartbeats 4000000 in
theorem Check_calls (frm : Int → Int) (rgt : In → Bool) (knd : Int → Bool) (hF : FormC frm) (hRt : RightC rgt) (hK : KindC knd) (o0 o1 o2 : Option Addr) (m0 m1 m2 c0 c1 c2 : Nat) (len : Int) (w : World) (ops regs imms : List Int)
    (ho : ReadN w.heap.size w (.slice o0 m0 c0) ops) (hr : ReadN w.heap.size w (.slice o1 m1 c1) regs) (hi : ReadN w.heap.size w (.slice o2 m2 c2) imms) (l0 : ops.length ≤ 99) (l1 : regs.length ≤ 99) (l2 : imms.length ≤ 99) :
    Calls Try.prog 22 #[.agg #[.slice o0 m0 c0, .slice o1 m1 c1, .slice o2 m2 c2, .int .i64 len]] w fun e w' => e = .returned (.int .i64 (chkv frm rgt knd ops regs imms len)) ∧ Below w.heap.size w w' := by
  have HF := Lib.hid hF; have HR := Lib.hid hRt; have HK := Lib.hid hK
  have hm0 : m0 = ops.length := by obtain ⟨o, cap, e, _⟩ := ho; cases e; rfl
  have hm1 : m1 = regs.length := by obtain ⟨o, cap, e, _⟩ := hr; cases e; rfl
  have M0 := Lib.hid hm0; have M1 := Lib.hid hm1
  have H0 := Lib.hid ho; have H1 := Lib.hid hr; have H2 := Lib.hid hi
  clear hF hRt hK ho hr hi hm0 hm1
  have E37 : ∀ args w, (callFunc 37 args).run Try.prog w = .ok (.enter 37 args) w := enters_of Try.func37 (by kernel_rfl) rfl
  have E39 : ∀ args w, (callFunc 39 args).run Try.prog w = .ok (.enter 39 args) w := enters_of Try.func39 (by kernel_rfl) rfl
  have HE37 := Lib.hid E37; have HE39 := Lib.hid E39
  clear E37 E39
  by_cases a1 : ops.any (fun op => !knd op) = true
  · rw [show chkv frm rgt knd ops regs imms len = 180 by unfold chkv; rw [if_pos (Or.inl a1)]]
    have A1 := Lib.hid a1
    clear a1
    go_enter Try.func22, Try.ntmps22
    go_wp2_with (go_at_call 40; refine hold_ ?_)
    intro _
    refine (ContainsFunc_calls 37 HE37.out _ (odd_calls knd HK.out) o0 c0 m0 ops _ M0.out ((H0.out.below (Below.alloc (Below.refl _ _) (Nat.le_refl _) _)).mono (by simp)) (by omega)).mono ?_
    rintro e w1 ⟨rfl, hb⟩
    rw [A1.out]
    go_wp2
    go_ret
    exact ⟨rfl, ((Below.refl _ w).alloc (Nat.le_refl _) _).trans (hb.mono (by simp))⟩
  · have b1 : ops.any (fun op => !knd op) = false := by simpa using a1
    have A1 := Lib.hid b1
    by_cases a2 : regs.any far = true
    · rw [show chkv frm rgt knd ops regs imms len = 180 by unfold chkv; rw [if_pos (Or.inr (Or.inl a2))]]
      have A2 := Lib.hid a2
      clear a2 a1 b1
      go_enter Try.func22, Try.ntmps22
      go_wp2_with (go_at_call 40; refine hold_ ?_)
      intro _
      refine (ContainsFunc_calls 37 HE37.out _ (odd_calls knd HK.out) o0 c0 m0 ops _ M0.out ((H0.out.below (Below.alloc (Below.refl _ _) (Nat.le_refl _) _)).mono (by simp)) (by omega)).mono ?_
      rintro e w1 ⟨rfl, hb⟩
      rw [A1.out]
      have k0 : w1.cell? ⟨w.heap.size, 0, none⟩ = some (.slice o0 m0 c0) := ((bcell hb).1 _ _ (by simp)).trans (by go_simp)
      have k1 : w1.cell? ⟨w.heap.size, 1, none⟩ = some (.slice o1 m1 c1) := ((bcell hb).1 _ _ (by simp)).trans (by go_simp)
      have k2 : w1.cell? ⟨w.heap.size, 2, none⟩ = some (.slice o2 m2 c2) := ((bcell hb).1 _ _ (by simp)).trans (by go_simp)
      have k3 : w1.cell? ⟨w.heap.size, 3, none⟩ = some (.int .i64 len) := ((bcell hb).1 _ _ (by simp)).trans (by go_simp)
      have hz : w.heap.size < w1.heap.size := by have := hb.size; simp at this; omega
      have HB1 : Hid (Below w.heap.size w w1) := Lib.hid (((Below.refl _ w).alloc (Nat.le_refl _) _).trans (hb.mono (by simp)))
      clear hb
      go_wp2_with (go_at_call 40; refine hold_ ?_)
      intro _
      refine (ContainsFunc_calls 39 HE39.out _ far_calls o1 c1 m1 regs _ M1.out ((H1.out.below HB1.out).mono (by omega)) (by omega)).mono ?_
      rintro e w2 ⟨rfl, hb⟩
      have k3' : w2.cell? ⟨w.heap.size, 3, none⟩ = some (.int .i64 len) := ((bcell hb).1 _ _ hz).trans k3
      have k2' : w2.cell? ⟨w.heap.size, 2, none⟩ = some (.slice o2 m2 c2) := ((bcell hb).1 _ _ hz).trans k2
      have k1' : w2.cell? ⟨w.heap.size, 1, none⟩ = some (.slice o1 m1 c1) := ((bcell hb).1 _ _ hz).trans k1
      have k0' : w2.cell? ⟨w.heap.size, 0, none⟩ = some (.slice o0 m0 c0) := ((bcell hb).1 _ _ hz).trans k0
      have HB2 : Hid (Below w.heap.size w w2) := Lib.hid (HB1.out.trans (hb.mono (by omega)))
      clear hb k0 k1 k2 k3
      rw [A2.out]
      go_wp2
      go_ret
      exact ⟨rfl, HB2.out⟩
    · have b2 : regs.any far = false := by simpa using a2
      have A2 := Lib.hid b2
      by_cases a3 : len < 0
      · rw [show chkv frm rgt knd ops regs imms len = 180 by unfold chkv; rw [if_pos (Or.inr (Or.inr (Or.inl a3)))]]
        clear a2 a1 b1 b2
        go_enter Try.func22, Try.ntmps22
        go_wp2_with (go_at_call 40; refine hold_ ?_)
        intro _
        refine (ContainsFunc_calls 37 HE37.out _ (odd_calls knd HK.out) o0 c0 m0 ops _ M0.out ((H0.out.below (Below.alloc (Below.refl _ _) (Nat.le_refl _) _)).mono (by simp)) (by omega)).mono ?_
        rintro e w1 ⟨rfl, hb⟩
        rw [A1.out]
        have k0 : w1.cell? ⟨w.heap.size, 0, none⟩ = some (.slice o0 m0 c0) := ((bcell hb).1 _ _ (by simp)).trans (by go_simp)
        have k1 : w1.cell? ⟨w.heap.size, 1, none⟩ = some (.slice o1 m1 c1) := ((bcell hb).1 _ _ (by simp)).trans (by go_simp)
        have k2 : w1.cell? ⟨w.heap.size, 2, none⟩ = some (.slice o2 m2 c2) := ((bcell hb).1 _ _ (by simp)).trans (by go_simp)
        have k3 : w1.cell? ⟨w.heap.size, 3, none⟩ = some (.int .i64 len) := ((bcell hb).1 _ _ (by simp)).trans (by go_simp)
        have hz : w.heap.size < w1.heap.size := by have := hb.size; simp at this; omega
        have HB1 : Hid (Below w.heap.size w w1) := Lib.hid (((Below.refl _ w).alloc (Nat.le_refl _) _).trans (hb.mono (by simp)))
        clear hb
        go_wp2_with (go_at_call 40; refine hold_ ?_)
        intro _
        refine (ContainsFunc_calls 39 HE39.out _ far_calls o1 c1 m1 regs _ M1.out ((H1.out.below HB1.out).mono (by omega)) (by omega)).mono ?_
        rintro e w2 ⟨rfl, hb⟩
        have k3' : w2.cell? ⟨w.heap.size, 3, none⟩ = some (.int .i64 len) := ((bcell hb).1 _ _ hz).trans k3
        have k2' : w2.cell? ⟨w.heap.size, 2, none⟩ = some (.slice o2 m2 c2) := ((bcell hb).1 _ _ hz).trans k2
        have k1' : w2.cell? ⟨w.heap.size, 1, none⟩ = some (.slice o1 m1 c1) := ((bcell hb).1 _ _ hz).trans k1
        have k0' : w2.cell? ⟨w.heap.size, 0, none⟩ = some (.slice o0 m0 c0) := ((bcell hb).1 _ _ hz).trans k0
        have HB2 : Hid (Below w.heap.size w w2) := Lib.hid (HB1.out.trans (hb.mono (by omega)))
        clear hb k0 k1 k2 k3
        rw [A2.out]
        go_wp2
        go_ret
        exact ⟨rfl, HB2.out⟩
      · by_cases a4 : 3 < len
        · rw [show chkv frm rgt knd ops regs imms len = 180 by unfold chkv; rw [if_pos (Or.inr (Or.inr (Or.inr a4)))]]
          clear a2 a1 b1 b2
          go_enter Try.func22, Try.ntmps22
          go_wp2_with (go_at_call 40; refine hold_ ?_)
          intro _
          refine (ContainsFunc_calls 37 HE37.out _ (odd_calls knd HK.out) o0 c0 m0 ops _ M0.out ((H0.out.below (Below.alloc (Below.refl _ _) (Nat.le_refl _) _)).mono (by simp)) (by omega)).mono ?_
          rintro e w1 ⟨rfl, hb⟩
          rw [A1.out]
          have k0 : w1.cell? ⟨w.heap.size, 0, none⟩ = some (.slice o0 m0 c0) := ((bcell hb).1 _ _ (by simp)).trans (by go_simp)
          have k1 : w1.cell? ⟨w.heap.size, 1, none⟩ = some (.slice o1 m1 c1) := ((bcell hb).1 _ _ (by simp)).trans (by go_simp)
          have k2 : w1.cell? ⟨w.heap.size, 2, none⟩ = some (.slice o2 m2 c2) := ((bcell hb).1 _ _ (by simp)).trans (by go_simp)
          have k3 : w1.cell? ⟨w.heap.size, 3, none⟩ = some (.int .i64 len) := ((bcell hb).1 _ _ (by simp)).trans (by go_simp)
          have hz : w.heap.size < w1.heap.size := by have := hb.size; simp at this; omega
          have HB1 : Hid (Below w.heap.size w w1) := Lib.hid (((Below.refl _ w).alloc (Nat.le_refl _) _).trans (hb.mono (by simp)))
          clear hb
          go_wp2_with (go_at_call 40; refine hold_ ?_)
          intro _
          refine (ContainsFunc_calls 39 HE39.out _ far_calls o1 c1 m1 regs _ M1.out ((H1.out.below HB1.out).mono (by omega)) (by omega)).mono ?_
          rintro e w2 ⟨rfl, hb⟩
          have k3' : w2.cell? ⟨w.heap.size, 3, none⟩ = some (.int .i64 len) := ((bcell hb).1 _ _ hz).trans k3
          have k2' : w2.cell? ⟨w.heap.size, 2, none⟩ = some (.slice o2 m2 c2) := ((bcell hb).1 _ _ hz).trans k2
          have k1' : w2.cell? ⟨w.heap.size, 1, none⟩ = some (.slice o1 m1 c1) := ((bcell hb).1 _ _ hz).trans k1
          have k0' : w2.cell? ⟨w.heap.size, 0, none⟩ = some (.slice o0 m0 c0) := ((bcell hb).1 _ _ hz).trans k0
          have HB2 : Hid (Below w.heap.size w w2) := Lib.hid (HB1.out.trans (hb.mono (by omega)))
          clear hb k0 k1 k2 k3
          rw [A2.out]
          go_wp2
          go_ret
          exact ⟨rfl, HB2.out⟩
        · have g3 : 0 ≤ len := by omega
          have g4 : len ≤ 3 := by omega
          by_cases hg : 4096 < (allL frm rgt ops regs imms).length
          · rw [show chkv frm rgt knd ops regs imms len = 2 by unfold chkv; rw [if_neg (by rw [b1, b2]; simp; omega), if_pos hg]]
            have HG := Lib.hid hg
            clear a2 a1 b1 b2 a3 a4 hg
            go_enter Try.func22, Try.ntmps22
            go_wp2_with (go_at_call 40; refine hold_ ?_)
            intro _
            refine (ContainsFunc_calls 37 HE37.out _ (odd_calls knd HK.out) o0 c0 m0 ops _ M0.out ((H0.out.below (Below.alloc (Below.refl _ _) (Nat.le_refl _) _)).mono (by simp)) (by omega)).mono ?_
            rintro e w1 ⟨rfl, hb⟩
            rw [A1.out]
            have k0 : w1.cell? ⟨w.heap.size, 0, none⟩ = some (.slice o0 m0 c0) := ((bcell hb).1 _ _ (by simp)).trans (by go_simp)
            have k1 : w1.cell? ⟨w.heap.size, 1, none⟩ = some (.slice o1 m1 c1) := ((bcell hb).1 _ _ (by simp)).trans (by go_simp)
            have k2 : w1.cell? ⟨w.heap.size, 2, none⟩ = some (.slice o2 m2 c2) := ((bcell hb).1 _ _ (by simp)).trans (by go_simp)
            have k3 : w1.cell? ⟨w.heap.size, 3, none⟩ = some (.int .i64 len) := ((bcell hb).1 _ _ (by simp)).trans (by go_simp)
            have hz : w.heap.size < w1.heap.size := by have := hb.size; simp at this; omega
            have HB1 : Hid (Below w.heap.size w w1) := Lib.hid (((Below.refl _ w).alloc (Nat.le_refl _) _).trans (hb.mono (by simp)))
            clear hb
            go_wp2_with (go_at_call 40; refine hold_ ?_)
            intro _
            refine (ContainsFunc_calls 39 HE39.out _ far_calls o1 c1 m1 regs _ M1.out ((H1.out.below HB1.out).mono (by omega)) (by omega)).mono ?_
            rintro e w2 ⟨rfl, hb⟩
            have k3' : w2.cell? ⟨w.heap.size, 3, none⟩ = some (.int .i64 len) := ((bcell hb).1 _ _ hz).trans k3
            have k2' : w2.cell? ⟨w.heap.size, 2, none⟩ = some (.slice o2 m2 c2) := ((bcell hb).1 _ _ hz).trans k2
            have k1' : w2.cell? ⟨w.heap.size, 1, none⟩ = some (.slice o1 m1 c1) := ((bcell hb).1 _ _ hz).trans k1
            have k0' : w2.cell? ⟨w.heap.size, 0, none⟩ = some (.slice o0 m0 c0) := ((bcell hb).1 _ _ hz).trans k0
            have HB2 : Hid (Below w.heap.size w w2) := Lib.hid (HB1.out.trans (hb.mono (by omega)))
            clear hb k0 k1 k2 k3
            rw [A2.out]
            go_wp2_with (go_at_call 35; refine hold_ ?_)
            intro _
            have hz2 : w.heap.size ≤ w2.heap.size := HB2.out.size
            refine (all_calls frm rgt HF.out HR.out o0 o1 o2 m0 m1 m2 c0 c1 c2 len w2 ops regs imms ((H0.out.below HB2.out).mono hz2) ((H1.out.below HB2.out).mono hz2) ((H2.out.below HB2.out).mono hz2) l0 l1 l2).mono ?_
            rintro e w3 ⟨v, rfl, hO, hb⟩
            obtain ⟨o, cap, hv, _⟩ := own_optI hO
            obtain ⟨N, hN⟩ : ∃ N, N = ((allL frm rgt ops regs imms).take 4097).length := ⟨_, rfl⟩
            rw [← hN] at hv
            subst hv
            have HB3 := Lib.hid (HB2.out.trans (hb.mono hz2))
            rw [List.length_take] at hN
            clear hb hO k0' k1' k2' k3'
            have hNN : 4097 ≤ N := by have := HG.out; omega
            clear hN
            go_wp2
            go_ret
            exact ⟨rfl, HB3.out⟩
          · rw [show chkv frm rgt knd ops regs imms len = 0 by unfold chkv; rw [if_neg (by rw [b1, b2]; simp; omega), if_neg hg]]
            have HG := Lib.hid hg
            clear a2 a1 b1 b2 a3 a4 hg
            go_enter Try.func22, Try.ntmps22
            go_wp2_with (go_at_call 40; refine hold_ ?_)
            intro _
            refine (ContainsFunc_calls 37 HE37.out _ (odd_calls knd HK.out) o0 c0 m0 ops _ M0.out ((H0.out.below (Below.alloc (Below.refl _ _) (Nat.le_refl _) _)).mono (by simp)) (by omega)).mono ?_
            rintro e w1 ⟨rfl, hb⟩
            rw [A1.out]
            have k0 : w1.cell? ⟨w.heap.size, 0, none⟩ = some (.slice o0 m0 c0) := ((bcell hb).1 _ _ (by simp)).trans (by go_simp)
            have k1 : w1.cell? ⟨w.heap.size, 1, none⟩ = some (.slice o1 m1 c1) := ((bcell hb).1 _ _ (by simp)).trans (by go_simp)
            have k2 : w1.cell? ⟨w.heap.size, 2, none⟩ = some (.slice o2 m2 c2) := ((bcell hb).1 _ _ (by simp)).trans (by go_simp)
            have k3 : w1.cell? ⟨w.heap.size, 3, none⟩ = some (.int .i64 len) := ((bcell hb).1 _ _ (by simp)).trans (by go_simp)
            have hz : w.heap.size < w1.heap.size := by have := hb.size; simp at this; omega
            have HB1 : Hid (Below w.heap.size w w1) := Lib.hid (((Below.refl _ w).alloc (Nat.le_refl _) _).trans (hb.mono (by simp)))
            clear hb
            go_wp2_with (go_at_call 40; refine hold_ ?_)
            intro _
            refine (ContainsFunc_calls 39 HE39.out _ far_calls o1 c1 m1 regs _ M1.out ((H1.out.below HB1.out).mono (by omega)) (by omega)).mono ?_
            rintro e w2 ⟨rfl, hb⟩
            have k3' : w2.cell? ⟨w.heap.size, 3, none⟩ = some (.int .i64 len) := ((bcell hb).1 _ _ hz).trans k3
            have k2' : w2.cell? ⟨w.heap.size, 2, none⟩ = some (.slice o2 m2 c2) := ((bcell hb).1 _ _ hz).trans k2
            have k1' : w2.cell? ⟨w.heap.size, 1, none⟩ = some (.slice o1 m1 c1) := ((bcell hb).1 _ _ hz).trans k1
            have k0' : w2.cell? ⟨w.heap.size, 0, none⟩ = some (.slice o0 m0 c0) := ((bcell hb).1 _ _ hz).trans k0
            have HB2 : Hid (Below w.heap.size w w2) := Lib.hid (HB1.out.trans (hb.mono (by omega)))
            clear hb k0 k1 k2 k3
            rw [A2.out]
            go_wp2_with (go_at_call 35; refine hold_ ?_)
            intro _
            have hz2 : w.heap.size ≤ w2.heap.size := HB2.out.size
            refine (all_calls frm rgt HF.out HR.out o0 o1 o2 m0 m1 m2 c0 c1 c2 len w2 ops regs imms ((H0.out.below HB2.out).mono hz2) ((H1.out.below HB2.out).mono hz2) ((H2.out.below HB2.out).mono hz2) l0 l1 l2).mono ?_
            rintro e w3 ⟨v, rfl, hO, hb⟩
            obtain ⟨o, cap, hv, _⟩ := own_optI hO
            obtain ⟨N, hN⟩ : ∃ N, N = ((allL frm rgt ops regs imms).take 4097).length := ⟨_, rfl⟩
            rw [← hN] at hv
            subst hv
            have HB3 := Lib.hid (HB2.out.trans (hb.mono hz2))
            rw [List.length_take] at hN
            clear hb hO k0' k1' k2' k3'
            have hNN : N ≤ 4096 := by have := HG.out; omega
            clear hN
            go_wp2
            go_ret
            exact ⟨rfl, HB3.out⟩
end Go.Proofs.Ytcjbdfhofpfooaa.Gm
