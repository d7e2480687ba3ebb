import Derived.Test.YtekenddkoahjgaaHQx5
import Derived.Test.YtekenddkoahjgaaHQx10
import Derived.Test.YtekenddkoahjgaaHQx37
import Derived.Test.YtekenddkoahjgaaHQx9
import Derived.Test.YtekenddkoahjgaaHQx32
import Derived.Test.YtekenddkoahjgaaHLA
import Derived.Test.YtekenddkoahjgaaHBP
import Derived.WalkKit
import Derived.Outline
/- Layer 8: what the law PG answers. -/
namespace Go.Proofs.Ytekenddkoahjgaa.Q
open Go.RowKit Go.Proofs.YtekenddkoahjgaaW.PrintWords Go.Proofs.YtekenddkoahjgaaW.PrintLast Go.Proofs.YtekenddkoahjgaaW.PrintMore
set_option linter.unusedVariables false
set_option linter.unusedSimpArgs false
theorem of_u32w {a : Int} (h : (Lit.int .u32 a).wf = true) : 0 ≤ a ∧ a < 4294967296 := by
 simp [Lit.wf, IntKind.min, IntKind.max, IntKind.signed, IntKind.bits] at h
 omega
theorem aftq_plain (x : Bl.Ins) (a : Nat) (h : endq x = false) : aftq x a = [Bl.nextv a] := by
 unfold endq Bl.endv at h
 simp only [Bool.or_eq_false_iff, Bool.not_eq_false', decide_eq_false_iff_not] at h
 obtain ⟨⟨⟨⟨h1, h2⟩, h3⟩, h4⟩, h5⟩ := h
 unfold aftq Bl.aftv
 rw [if_neg (fun h => h.elim (fun h => by rw [h1] at h; cases h) h5), if_neg (fun h => h3 h.1), if_neg (fun h => h.elim h3 h2), if_neg (fun h => h4 h.1)]
theorem and_hi (n : Nat) (h : n < 4294967296) : n &&& 4294963200 = n / 4096 * 4096 := by
 apply Nat.eq_of_testBit_eq
 intro i
 rw [Nat.testBit_and, show (4294963200 : Nat) = (2 ^ 20 - 1) * 2 ^ 12 by decide, show (4096 : Nat) = 2 ^ 12 by decide, Nat.testBit_mul_two_pow, Nat.testBit_mul_two_pow, Nat.testBit_div_two_pow, Nat.testBit_two_pow_sub_one]
 by_cases h12 : 12 ≤ i
 ·simp only [h12, decide_true, Bool.true_and]
  rw [show i - 12 + 12 = i by omega]
  by_cases h20 : i - 12 < 20
  ·simp [h20]
  ·have : n.testBit i = false := Nat.testBit_lt_two_pow (Nat.lt_of_lt_of_le h (by
    have : 2 ^ 32 ≤ 2 ^ i := Nat.pow_le_pow_right (by omega) (by omega)
    omega))
   simp [this]
 ·simp [h12]
theorem and_u32 (n : Nat) (h : n < 4294967296) : Go.bits .and .u32 (n : Int) 4294963200 = ((n / 4096 * 4096 : Nat) : Int) := by
 rw [← and_hi n h]
 have e1 : (BitVec.ofInt 32 (n : Int)).toNat = n := by rw [BitVec.ofInt_natCast, BitVec.toNat_ofNat]; exact Nat.mod_eq_of_lt (by omega)
 show IntKind.u32.wrap (((BitVec.ofInt 32 (n : Int)) &&& (BitVec.ofInt 32 (4294963200 : Int))).toNat : Int) = _
 rw [BitVec.toNat_and, e1, show (BitVec.ofInt 32 (4294963200 : Int)).toNat = 4294963200 by decide]
 have : n &&& 4294963200 ≤ n := Nat.and_le_left
 generalize n &&& 4294963200 = z at *
 simp only [IntKind.wrap, IntKind.signed, IntKind.bits, Bool.false_and, Bool.false_eq_true, if_false]
 omega
theorem decode_all (x : Int) (h : 0 ≤ x ∧ x < 4294967296) : (inst_Decode.f 200 x).isSome = true := by
 obtain ⟨n, rfl⟩ := Int.eq_ofNat_of_zero_le h.1
 obtain ⟨z, hz, _⟩ := Decode_tot n (by omega)
 rw [hz]
 rfl
abbrev Iw (b : Int) (l : List Int) : Nat → Bl.Ins × Int := Iq b.toNat (natL l)
abbrev runq (b e : Int) (l es : List Int) : Bl.RS := Bl.rrun (Iw b l) aftq endq (fuelq l es) (Bl.rs0 e.toNat (natL es))
structure ImOk (b e : Int) (l : List Int) : Prop where
 b1 : 0 ≤ b ∧ b ≤ 4294963200
 b2 : b % 4096 = 0
 e1 : 0 ≤ e ∧ e < 4294967296
 l1 : l.length ≤ 40
 l2 : ∀ x ∈ l, 0 ≤ x ∧ x < 4294967296
structure EsOk (es : List Int) : Prop where
 l1 : es.length ≤ 100
 l2 : ∀ x ∈ es, 0 ≤ x ∧ x < 4294967296
theorem ImOk.fin {b e : Int} {l es : List Int} (h : ImOk b e l) (he : EsOk es) : Bl.FDone (Iw b l) aftq endq (natL es ++ [e.toNat]) (runq b e l es) :=
 Bl.FDone.make (Bl.find_end decq aftq endq (fun x a => (aftq_facts x a).1) b.toNat (natL l) e.toNat (natL es) (fuelq l es) (by simp [fuelq, natL])) (fun x a => (aftq_facts x a).2) (by have := h.e1; omega) (fun a ha => by obtain ⟨x, hx, rfl⟩ := List.mem_map.1 ha; have := he.l2 x hx; omega)
theorem ImOk.find {b e : Int} {l es : List Int} (h : ImOk b e l) (he : EsOk es) (s : Int) : blocks_Find.f b e l s es = some ((findq b e l es).1.map toB, (findq b e l es).2) ∧ findq b e l es = Bl.fend (Iw b l) endq (runq b e l es) := by
 refine ⟨?_, rfl⟩
 unfold blocks_Find.f
 rw [if_pos]
 have h1 := h.b1
 have h2 := h.l1
 have h3 := he.l1
 exact ⟨by omega, h.e1, by omega, by omega, fun x hx => ⟨(h.l2 x hx).1, decode_all x (h.l2 x hx)⟩, he.l2, (h.fin he).fin⟩
theorem ImOk.four {b e : Int} {l es : List Int} (h : ImOk b e l) (he : EsOk es) (a : Nat) (ha : a ∈ (runq b e l es).seen) : a % 4 = 0 ∧ a + 4 < 4294967296 := by
 obtain ⟨i, hi, rfl⟩ := Bl.insv_valid decq b.toNat (natL l) a ((h.fin he).go.ok a ha)
 have h1 := h.b1
 have h2 := h.b2
 have h3 := h.l1
 have h4 : (natL l).length = l.length := by simp [natL]
 omega
theorem ImOk.few {b e : Int} {l es : List Int} (h : ImOk b e l) (he : EsOk es) : (runq b e l es).seen.length ≤ 40 := by
 have := Bl.nodup_len (runq b e l es).seen ((List.range (natL l).length).map (fun i => b.toNat + 4 * i)) (h.fin he).inv.s1 (fun a ha => by
  obtain ⟨i, hi, rfl⟩ := Bl.insv_valid decq b.toNat (natL l) a ((h.fin he).go.ok a ha)
  exact List.mem_map.2 ⟨i, List.mem_range.2 hi, rfl⟩)
 have h3 := h.l1
 simp [natL] at this
 omega
theorem rdB (L : List (Nat × Nat)) (j : Nat) (x : Nat × Nat) (h : L[j]? = some x) : rd_T40 (L.map toB) (j : Int) = toB x := by
 show (L.map toB).getD (Int.toNat (j : Int)) _ = _
 rw [Int.toNat_natCast, List.getD_eq_getElem?_getD, List.getElem?_map, h]
 rfl
theorem len_sum (L : List (Nat × Nat)) : L.length = (L.map Prod.fst).length := by simp
theorem FDone_len {b e : Int} {l es : List Int} (h : ImOk b e l) (he : EsOk es) : (findq b e l es).1.length ≤ 40 ∧ ((findq b e l es).1.map Prod.snd).sum ≤ 40 := by
 have hf := h.fin he
 have hw := h.few he
 rw [(h.find he 0).2]
 by_cases hb : (runq b e l es).bad = []
 ·obtain ⟨c1, c2⟩ := hf.counts (h.four he) hb
  refine ⟨?_, by rw [c1]; exact hw⟩
  rw [len_sum, c2]
  exact Nat.le_trans (List.length_filter_le _ _) (by rw [Bl.sortv_length]; exact hw)
 ·rw [hf.err.2.1 hb]
  simp
def Ev (p : Nat → Prop) : Prop := ∃ n, ∀ k, n ≤ k → p k
theorem Ev.step {p q : Nat → Prop} (h : Ev q) (hs : ∀ k, q k → p (k + 1)) : Ev p := by
 obtain ⟨n, h⟩ := h
 refine ⟨n + 1, fun k hk => ?_⟩
 obtain ⟨k, rfl⟩ : ∃ m, k = m + 1 := ⟨k - 1, by omega⟩
 exact hs k (h k (by omega))
theorem Ev.mono {p q : Nat → Prop} (h : Ev q) (hs : ∀ k, q k → p k) : Ev p := by
 obtain ⟨n, h⟩ := h
 exact ⟨n, fun k hk => hs k (h k hk)⟩
theorem Ev.and {p q : Nat → Prop} (h : Ev p) (g : Ev q) : Ev (fun k => p k ∧ q k) := by
 obtain ⟨n, h⟩ := h
 obtain ⟨m, g⟩ := g
 exact ⟨n + m, fun k hk => ⟨h k (by omega), g k (by omega)⟩⟩
theorem Ev.of {p : Nat → Prop} (n : Nat) (h : ∀ k, n ≤ k → p k) : Ev p := ⟨n, h⟩
theorem Ev.all {p : Nat → Prop} (h : ∀ k, p k) : Ev p := ⟨0, fun k _ => h k⟩
theorem Ev.one {p : Nat → Prop} (h : ∀ k, p (k + 1)) : Ev p := Ev.step (q := fun _ => True) (Ev.all fun _ => trivial) fun k _ => h k
theorem wrap_nat (j : Nat) (h : j < 1000000) : wrap64 ((j : Int) + 1) = ((j + 1 : Nat) : Int) := by unfold wrap64; omega
theorem rd_at (l : List Int) (j : Nat) (x : Int) (h : l[j]? = some x) : rd l (j : Int) = x := by
 show l.getD (Int.toNat (j : Int)) 0 = x
 rw [Int.toNat_natCast, List.getD_eq_getElem?_getD, h]
 rfl
theorem pAft (x : Bl.Ins) (n : Nat) (hn : n < 4294967296) : blocks_After.f x.1 x.2.1 x.2.2.1 x.2.2.2.1 x.2.2.2.2 (n : Int) = some (castL (aftq x n)) := by
 unfold blocks_After.f
 rw [if_pos ⟨by omega, by omega⟩, Int.toNat_natCast]
 rfl
structure WOk (b e : Int) (lt : List Int) (L : List (Nat × Nat)) : Prop where
 n : ∀ x ∈ L, 1 ≤ x.2 ∧ x.2 ≤ 40
 len : L.length ≤ 40
 hi : ∀ x ∈ L, x.1 + 4 * x.2 < 4294967296
 ok : ∀ x ∈ L, ∀ i, i < x.2 → (Iw b lt (x.1 + 4 * i)).2 = 0
 nd : ∀ x ∈ L, ∀ i, i + 1 < x.2 → endq (Iw b lt (x.1 + 4 * i)).1 = false
 ap : L.Pairwise (fun b c => b.1 + 4 * b.2 ≤ c.1)
 bh : ∀ x ∈ L, ∀ c ∈ aftq (Iw b lt (x.1 + 4 * (x.2 - 1))).1 (x.1 + 4 * (x.2 - 1)), c ∈ L.map Prod.fst
 en : e.toNat ∈ L.map Prod.fst
theorem mem_le_sum : ∀ (l : List Nat) (x : Nat), x ∈ l → x ≤ l.sum
 | y :: l, x, h => by
  rw [List.sum_cons]
  rcases List.mem_cons.1 h with h | h
  ·omega
  ·have := mem_le_sum l x h
   omega
theorem WOk.make {b e : Int} {lt es : List Int} (h : ImOk b e lt) (he : EsOk es) (h0 : (findq b e lt es).2 = 0) : WOk b e lt (findq b e lt es).1 := by
 have hf := h.fin he
 have hw := h.few he
 have h4 := h.four he
 rw [(h.find he 0).2] at h0 ⊢
 have hb := hf.err.1.1 h0
 obtain ⟨w1, w2, w3⟩ := hf.whole h4 hb
 obtain ⟨c1, c2⟩ := hf.counts h4 hb
 have hn : ∀ x ∈ (Bl.fend (Iw b lt) endq (runq b e lt es)).1, x.2 ≤ 40 := fun x hx => by
  have : x.2 ≤ ((Bl.fend (Iw b lt) endq (runq b e lt es)).1.map Prod.snd).sum := mem_le_sum _ _ (List.mem_map.2 ⟨x, hx, rfl⟩)
  omega
 refine ⟨fun x hx => ⟨w2 x hx, hn x hx⟩, ?_, fun x hx => ?_, fun x hx i hi => ?_, w3, hf.apart h4 hb, fun x hx c hc => hf.behind (fun x a h => aftq_plain x a h) h4 hb x hx _ rfl c hc, hf.entry h4 hb _ (by simp)⟩
 ·rw [len_sum, c2]
  exact Nat.le_trans (List.length_filter_le _ _) (by rw [Bl.sortv_length]; exact hw)
 ·have n1 := w2 x hx
  have := h4 _ (hf.mem h4 hb x hx (x.2 - 1) (by omega))
  omega
 ·exact ((hf.go.seen_iff hf.fin _).1 (hf.mem h4 hb x hx i hi)).2
end Go.Proofs.Ytekenddkoahjgaa.Q
