import Derived.Test.YtoaifpiiofpdaaaMA
import Derived.WalkKit
import Derived.KernelRfl
import Derived.Below
import Derived.Outline
import Derived.LoopTactic
import Derived.Maps.Own
import Derived.Maps.OwnOps
import Derived.Maps.OwnSet
import Derived.Maps.Views
import Derived.Maps.AppendAt
import Derived.Laws.BitsLemmas
import Derived.Laws.BitsAllLaws
import Derived.Deep.LoopGhost
import Derived.Lib.Hide
import Derived.RangeFuncBox
import Derived.OwnWalk
import Derived.Laws.OwnMore
import Derived.Laws.BytesArg
import Derived.Laws.MakeOwn
namespace Go.Proofs.Ytoaifpiiofpdaaa.Mm
open Go.RowKit Go.Maps Go.Proofs
set_option linter.unusedVariables false
set_option linter.unusedSimpArgs false
/-! ## Cells -/
/-- Cells, as they lie in a row. -/
def cv (l : List (Nat × Nat)) : List Value := l.flatMap fun x => [.int .u32 (x.1 : Int), .int .u8 (x.2 : Int)]
theorem cv_append (l m : List (Nat × Nat)) : cv (l ++ m) = cv l ++ cv m := List.flatMap_append
theorem cv_length (l : List (Nat × Nat)) : (cv l).length = l.length * 2 := by
  induction l with
  | nil => rfl
  | cons x l ih => simp only [cv, List.flatMap_cons, List.length_append, List.length_cons, List.length_nil] at ih ⊢; rw [ih]; omega
/-- A slice of cells of the call's own. -/
abbrev OwnC (w : World) (base : Nat) (v : Value) (l : List (Nat × Nat)) : Prop := w.ownsRow base 42 2 v l.length (cv l)
theorem infoC : (Try.prog.info? 42).map (fun i => (i.zero, i.size, i.bytes)) = some (some (.agg #[.int .u32 0, .int .u8 0]), 2, 8) := by kernel_rfl
theorem cells_new (w : World) (cs : Array Value) (t : TypeId) : ∀ j u, cs.toList[j]? = some u → (w.alloc (.cells cs t)).cell? ((⟨w.heap.size, 0, none⟩ : Addr).add j) = some u := by
  intro j u hj
  have e : (⟨w.heap.size, 0, none⟩ : Addr).add j = ⟨w.heap.size, j, none⟩ := by unfold Addr.add; split <;> simp_all
  have := World.alloc_heap_new w (.cells cs t)
  rw [e]
  simp only [World.cell?, this]
  simpa using hj
theorem wp_app {w : World} {ops : Array Oper} {rest : List Oper} {o : Oper} {ac : Act} {Q : Exit → Act → World → Prop} (hg : o.guard = none) (s x : Operand) (hop : o.op = .call { callee := .builtin .append, args := #[s, x], argTypes := #[28, 28] })
    (base : Nat) (v : Value) (l : List (Nat × Nat)) (a c : Nat) (hs : ac.eval s = v) (hown : OwnC w base v l) (cap : Nat) (hx : ac.eval x = .slice (some ⟨w.heap.size, 0, none⟩) 1 cap) (hl : l.length < 100000000) (hbase : base ≤ w.heap.size)
    (hK : ∀ v' w', OwnC w' base v' (l ++ [(a, c)]) → w.grownBy w' v.ownBlock → v' ≠ .slice none 0 0 → wpList Try.prog ops Q rest (ac.put o.dst v') w') :
    wpList Try.prog ops Q (o :: rest) ac (w.alloc (.cells #[.int .u32 (a : Int), .int .u8 (c : Int)] 42)) := by
  obtain ⟨i0, hi, hz0, hz1, hz2⟩ := info_parts infoC
  refine wpList_append_own _ hg s x _ hop base _ i0 _ 2 8 Try.underlying28 hi hz0 hz1 hz2 rfl (by decide) v l.length (cv l) hs (hown.alloc _) ⟨w.heap.size, 0, none⟩ 1 cap [.int .u32 (a : Int), .int .u8 (c : Int)] hx rfl (cells_new w #[.int .u32 (a : Int), .int .u8 (c : Int)] _) (by simp [Value.oneCell']) (by unfold maxLen; omega) (by omega) (by simp; omega) ?_
  intro v' w' h1 h2 h3
  refine hK v' w' ?_ ((World.grownBy_alloc w _ _).trans h2) (fun e => by have := h3.1 e; omega)
  show w'.ownsRow base _ 2 v' (l ++ [(a, c)]).length (cv (l ++ [(a, c)]))
  rw [cv_append, List.length_append]
  exact h1
/-- The cells of a memory: each byte that is not 0, once, by rising addresses. -/
def Rep (f : Nat → Nat) (l : List (Nat × Nat)) : Prop := l.Pairwise (fun x y => x.1 < y.1) ∧ ∀ a c, (a, c) ∈ l ↔ (c = f a ∧ c ≠ 0)
theorem Rep.unique {f : Nat → Nat} {l m : List (Nat × Nat)} (h : Rep f l) (k : Rep f m) : l = m := by
  have hp : l.Perm m := by
    refine (List.perm_ext_iff_of_nodup ?_ ?_).2 fun x => ?_
    · exact h.1.imp fun {a b} hab e => by rw [e] at hab; omega
    · exact k.1.imp fun {a b} hab e => by rw [e] at hab; omega
    · obtain ⟨a, c⟩ := x
      rw [h.2, k.2]
  exact List.Perm.eq_of_pairwise (le := fun x y => x.1 < y.1) (fun a b _ _ h1 h2 => by omega) h.1 k.1 hp
theorem keys_facts {w : World} {b n : Nat} {D : DataW Unit} (h : w.ownsMap Try.prog 22 (plainElem Try.prog 5) b n D) :
    (It.u32Keys D).Nodup ∧ (∀ x, x ∈ It.u32Keys D ↔ Maps.has D (.int .u32 x) = true) ∧ (∀ x ∈ It.u32Keys D, ∃ a : Nat, x = (a : Int) ∧ a < 4294967296) ∧ (It.u32Keys D).length = Maps.size D := by
  have hk := Try.underlying22
  obtain ⟨es, hD, hpw, _⟩ := h.entries law
  obtain ⟨es', hD', hko⟩ := h.keysOf
  obtain rfl : es = es' := by rw [hD] at hD'; simpa using hD'
  have hwf := It.u32Keys_wf h hk
  subst hD
  have hkk : ∀ p ∈ es, ∃ x, p.1 = Lit.int .u32 x := fun p hp => by
    obtain ⟨v, hv⟩ := hko p hp
    obtain ⟨x, _, hx, _⟩ := It.Maps.keyOf_u32 hk hv
    exact ⟨x, hx⟩
  refine ⟨?_, fun x => ?_, fun x hx => ?_, ?_⟩
  · show (es.map fun p => It.litInt p.1).Nodup
    refine List.pairwise_map.2 (hpw.imp_of_mem fun {p q} hp' hq' hne e => hne ?_)
    obtain ⟨a, ha⟩ := hkk p hp'
    obtain ⟨b, hb⟩ := hkk q hq'
    rw [ha, hb] at e ⊢
    exact congrArg _ e
  · rw [has_eq, List.any_eq_true]
    show x ∈ (es.map fun p => It.litInt p.1) ↔ _
    rw [List.mem_map]
    constructor
    · rintro ⟨p, hp', rfl⟩
      obtain ⟨a, ha⟩ := hkk p hp'
      exact ⟨p, hp', by rw [ha]; simp [Lit.sameKey, It.litInt]⟩
    · rintro ⟨p, hp', hs⟩
      obtain ⟨a, ha⟩ := hkk p hp'
      rw [ha] at hs
      exact ⟨p, hp', by rw [ha]; simpa [Lit.sameKey, It.litInt] using hs⟩
  · have := hwf x hx
    simp [Lit.wf, IntKind.min, IntKind.max, IntKind.signed, IntKind.bits] at this
    exact ⟨x.toNat, by omega, by omega⟩
  · simp [It.u32Keys, Maps.size]
theorem sorted_rep {f : Nat → Nat} {ss : List Int} (hn : ss.Nodup) (hm : ∀ x : Int, x ∈ ss ↔ ∃ a : Nat, x = (a : Int) ∧ f a ≠ 0) :
    Rep f ((ss.mergeSort (fun x y => decide (x ≤ y))).map (fun x => (x.toNat, f x.toNat))) := by
  have hp := List.mergeSort_perm ss (fun x y => decide (x ≤ y))
  have hs : (ss.mergeSort (fun x y => decide (x ≤ y))).Pairwise (fun x y => decide (x ≤ y) = true) :=
    List.pairwise_mergeSort (fun a b c h1 h2 => by simp only [decide_eq_true_eq] at *; omega) (fun a b => by simp only [Bool.or_eq_true, decide_eq_true_eq]; omega) ss
  generalize ss.mergeSort (fun x y => decide (x ≤ y)) = ts at hp hs ⊢
  have hnt : ts.Nodup := hp.nodup_iff.2 hn
  have hmt : ∀ x, x ∈ ts ↔ ∃ a : Nat, x = (a : Int) ∧ f a ≠ 0 := fun x => (hp.mem_iff).trans (hm x)
  constructor
  · refine List.pairwise_map.2 ?_
    refine (List.pairwise_and_iff.2 ⟨hs, hnt⟩).imp_of_mem ?_
    intro x y hx hy ⟨h1, h2⟩
    obtain ⟨a, rfl, _⟩ := (hmt x).1 hx
    obtain ⟨b, rfl, _⟩ := (hmt y).1 hy
    simp only [decide_eq_true_eq] at h1
    simp only [Int.toNat_natCast]
    have : a ≠ b := fun e => h2 (by rw [e])
    omega
  · intro a c
    rw [List.mem_map]
    constructor
    · rintro ⟨x, hx, he⟩
      obtain ⟨b, rfl, hb⟩ := (hmt x).1 hx
      simp only [Int.toNat_natCast, Prod.mk.injEq] at he
      obtain ⟨rfl, rfl⟩ := he
      exact ⟨rfl, hb⟩
    · rintro ⟨rfl, hc⟩
      exact ⟨(a : Int), (hmt _).2 ⟨a, rfl, hc⟩, by simp⟩
theorem OwnC.lt {w : World} {base : Nat} {v : Value} {l : List (Nat × Nat)} (h : OwnC w base v l) : ∀ k, v.ownBlock = some k → base ≤ k ∧ k < w.heap.size := World.ownsRow.lt h
theorem below_of_two {w w2 : World} {o : Obj} (h : Below (w.alloc o).heap.size (w.alloc o) w2) : Below w.heap.size w w2 := ((Below.refl _ w).alloc (Nat.le_refl _) o).trans (h.mono (by simp))
set_option maxHeartbeats 3200000 in
theorem Cells_calls (p b n : Nat) (f : Nat → Nat) (w : World) (h : MemAt w p b n f) (hn : n < 90000000) :
    Calls Try.prog 12 #[.pointer (some ⟨p, 0, none⟩)] w fun e w' => ∃ v l, e = .returned v ∧ Rep f l ∧ l.length ≤ n ∧ OwnC w' w.heap.size v l ∧ (v = .slice none 0 0 ↔ l = []) ∧ Below w.heap.size w w' := by
  have HM := Lib.hid h
  have hcell := h.cell
  obtain ⟨⟨D, ho, hD⟩, hf⟩ := h.map
  obtain ⟨kn, km, kw, kl⟩ := keys_facts ho
  have hsz : Maps.size D ≤ n := by
    obtain ⟨es, clock, hb, F, hs, rfl⟩ := ho
    simp only [Maps.size]
    rw [Go.length_sorted]
    simpa using hs
  have HD := Lib.hid hD
  have HO := Lib.hid ho
  have HF := Lib.hid hf
  have KN := Lib.hid kn
  have KM := Lib.hid km
  have KW := Lib.hid kw
  have KL := Lib.hid kl
  clear h hD ho hf kn km kw kl
  have hplt := HM.out.lt
  have hblt := HM.out.map.lt
  go_enter Try.func12, Try.ntmps12
  go_wp2_with (first
    | (go_at_call 26; refine (It.keysU_calls _ _).mono ?_; rintro e w1 ⟨rfl, rfl⟩)
    | (go_at_call 25; refine (It.sortedU (H := Unit) b n w.heap.size D _ _ (by simp) (by simp) (HO.out.alloc _) (by unfold maxLen; omega) (by omega)).mono ?_; rintro e w2 ⟨v, ss, rfl, hperm, hrow, hnil, hbel⟩))
  have hrow' := hrow.2
  have HROW := Lib.hid hrow
  have HP := Lib.hid hperm
  have HN := Lib.hid hnil
  have HBl := Lib.hid hbel
  clear hrow hperm hnil hbel
  obtain ⟨ks, hks⟩ : ∃ ks, ss.mergeSort (fun x y => decide (x ≤ y)) = ks := ⟨_, rfl⟩
  have hlen : ks.length = ss.length := by rw [← hks, List.length_mergeSort]
  have hrep : Rep f (ks.map (fun x => (x.toNat, f x.toNat))) := by
    rw [← hks]
    refine sorted_rep (HP.out.nodup_iff.2 KN.out) (fun x => ?_)
    rw [HP.out.mem_iff]
    constructor
    · intro hx
      obtain ⟨a, rfl, ha⟩ := KW.out x hx
      refine ⟨a, rfl, ?_⟩
      have h1 := (KM.out _).1 hx
      have h2 := (HD.out a ha).2
      rw [show KU a = Lit.int .u32 (a : Int) from rfl, h1] at h2
      exact of_decide_eq_true h2.symm
    · rintro ⟨a, rfl, ha⟩
      have hlt : a < 4294967296 := Nat.lt_of_not_le fun hle => ha (HF.out.2 a hle)
      refine (KM.out _).2 ?_
      have h2 := (HD.out a hlt).2
      rw [show Lit.int .u32 (a : Int) = KU a from rfl, h2]
      exact decide_eq_true ha
  have hkn : ∀ j, j < ks.length → ∃ a : Nat, ks[j]? = some (a : Int) ∧ a < 4294967296 := by
    intro j hj
    have hm : ks[j] ∈ It.u32Keys D := HP.out.mem_iff.1 ((List.mergeSort_perm ss _).mem_iff.1 (by rw [hks]; exact List.getElem_mem hj))
    obtain ⟨a, ha, hl⟩ := KW.out _ hm
    exact ⟨a, by rw [List.getElem?_eq_getElem hj, ha], hl⟩
  have hln : ks.length ≤ n := by
    rw [hlen, HP.out.length_eq, KL.out]; exact hsz
  rw [hks] at HROW
  have HREP := Lib.hid hrep
  have HKN := Lib.hid hkn
  have HKS := Lib.hid hks
  clear hrep hkn hks
  have hw2 : w.heap.size + 1 ≤ w2.heap.size := by have := HBl.out.size; simpa using this
  have hcw2 : w2.cell? ⟨p, 0, none⟩ = some (.map (some b)) := (HBl.out.cell (p := ⟨p, 0, none⟩) (by simp; omega)).trans (HM.out.alloc _).cell
  have hb2 : w2.heap[b]? = w.heap[b]? := (HBl.out.block b (by simp; omega)).trans (Below.heap_alloc _ _ b hblt)
  have hmw : ∀ wr, wr.heap[b]? = w2.heap[b]? → MapAt wr b n f := by
    intro wr e
    refine ⟨⟨D, ?_, HD.out⟩, HF.out⟩
    obtain ⟨es, clock, hb, rest⟩ := HO.out
    exact ⟨es, clock, (e.trans hb2).trans hb, rest⟩
  have HMW := Lib.hid hmw
  have HB2 := Lib.hid hb2
  have HC2 := Lib.hid hcw2
  clear hmw hb2 hcw2 hcell
  rcases hrow' with ⟨rfl, hz⟩ | ⟨g, cap, cur, rfl, hbase, hgb, r1, r2, r3, r4⟩
  · have hk0 : ks = [] := List.eq_nil_of_length_eq_zero (by omega)
    subst hk0
    go_simp
    try rw [Oper.upon_value]
    go_wp2
    refine wp_loop_rounds 1 ?_
    rw [rounds_succ]
    go_wp2
    go_ret
    exact ⟨_, _, rfl, HREP.out, by simp, World.ownsRow_nil _ _ _ _, by simp, below_of_two HBl.out⟩
  · have hgl : g < w2.heap.size := (Array.getElem?_eq_some_iff.1 hgb).1
    have HGB := Lib.hid hgb
    clear hgb r3 r4
    obtain ⟨N, hN⟩ : ∃ N, N = ss.length := ⟨_, rfl⟩
    rw [← hN] at HROW hlen r1 ⊢
    have HL := Lib.hid hlen
    clear hlen hN
    have hNn : N ≤ n := by have := HL.out; omega
    go_simp
    try rw [Oper.upon_value]
    go_wp2
    go_loopw [3, 13] (fun s3 s13 wr => ∃ (j : Nat) (v : Value), j ≤ N ∧ s13 = .int .i64 j ∧ v = s3 ∧ OwnC wr w2.heap.size v ((ks.map (fun x => (x.toNat, f x.toNat))).take j) ∧ (v = .slice none 0 0 ↔ j = 0) ∧ Below w2.heap.size w2 wr) (fun _ s13 _ => N - (intOf s13).toNat)
    case atStart => exact ⟨0, _, Nat.zero_le _, rfl, rfl, World.ownsRow_nil _ _ _ _, by simp, Below.refl _ _⟩
    case round =>
      obtain ⟨j, v, hj, rfl, rfl, hO, hN, hB⟩ := hrel
      have HO3 := Lib.hid hO
      have HN3 := Lib.hid hN
      have HB3 := Lib.hid hB
      clear hO hN hB
      by_cases hlt : j < N
      · obtain ⟨a, ka, la⟩ := HKN.out j (by have := HL.out; omega)
        have hc1 : wr.cell? ⟨g, j, none⟩ = some (.int .u32 (a : Int)) := by
          refine (HB3.out.cell (p := ⟨g, j, none⟩) hgl).trans ?_
          rw [HROW.out.cellAt j (by omega)]
          simp [ka]
        have hc2 : wr.cell? ⟨p, 0, none⟩ = some (.map (some b)) := (HB3.out.cell (p := ⟨p, 0, none⟩) (by show p < _; omega)).trans HC2.out
        have hm := HMW.out wr (HB3.out.block b (by omega))
        have HKA := Lib.hid ka
        clear ka
        have HLL : Hid (((ks.map (fun x => (x.toNat, f x.toNat))).take j).length < 100000000) := Lib.hid (Nat.lt_of_le_of_lt (List.length_take_le _ _) (by omega))
        go_wp2_with (first
          | (at_lookup; refine wp_look rfl _ _ rfl b n f rfl hm a la rfl ?_)
          | (at_builtin; refine wp_app rfl _ _ rfl w2.heap.size v _ a (f a) rfl HO3.out 1 rfl HLL.out HB3.out.size ?_; intro v' w3 h3 hg3 hn3))
        go_roundw
        case rel =>
          have e : (ks.map (fun x => (x.toNat, f x.toNat))).take (j + 1) = (ks.map (fun x => (x.toNat, f x.toNat))).take j ++ [(a, f a)] := by
            rw [List.take_add_one]
            simp [HKA.out]
          refine ⟨j + 1, v', hlt, by go_num, rfl, by rw [e]; exact h3, by simp [hn3], ?_⟩
          exact HB3.out.grown hg3 HB3.out.size (fun q hq => (HO3.out.lt q hq).1)
        case measure => simp [intOf]; omega
      · obtain rfl : j = N := by omega
        go_wp2
        go_ret
        have e : (ks.map (fun x => (x.toNat, f x.toNat))).take j = ks.map (fun x => (x.toNat, f x.toNat)) := List.take_of_length_le (by rw [List.length_map]; have := HL.out; omega)
        have hO := HO3.out
        rw [e] at hO
        refine ⟨v, _, rfl, HREP.out, by simp; omega, ?_, ?_, (below_of_two HBl.out).trans (HB3.out.mono (by omega))⟩
        · exact ⟨hO.1, hO.2.imp id (fun ⟨g', cap', cur', h1, h2, h3⟩ => ⟨g', cap', cur', h1, by omega, h3⟩)⟩
        · rw [HN3.out]
          have := HL.out
          constructor
          · intro h0; rw [List.map_eq_nil_iff]; exact List.eq_nil_of_length_eq_zero (by omega)
          · intro h0; rw [List.map_eq_nil_iff] at h0; rw [h0] at this; simpa using this.symm
end Go.Proofs.Ytoaifpiiofpdaaa.Mm
