import Derived.Test.YtekenddkoahjgaaTQx0
import Derived.Test.YtekenddkoahjgaaTQx10
import Derived.Test.YtekenddkoahjgaaTQx28
import Derived.Test.YtekenddkoahjgaaTQx30
import Derived.Test.YtekenddkoahjgaaTQx31
import Derived.Test.YtekenddkoahjgaaTQx35
import Derived.Test.YtekenddkoahjgaaTQx41
import Derived.Test.YtekenddkoahjgaaTQx42
import Derived.Test.YtekenddkoahjgaaTPWBlocksGo
import Derived.Test.YtekenddkoahjgaaTLA
import Derived.Test.YtekenddkoahjgaaTBP
import Derived.WalkKit
import Derived.Outline
/- Layer 8: what the law PWBlocksMore answers. -/
namespace Go.Proofs.Ytekenddkoahjgaa.Q
open Go.RowKit Go.Proofs.YtekenddkoahjgaaW.PrintWords Go.Proofs.YtekenddkoahjgaaW.PrintLast Go.Proofs.YtekenddkoahjgaaW.PrintMore
set_option linter.unusedVariables false
set_option linter.unusedSimpArgs false
theorem and_hi (n : Nat) (h : n < 4294967296) : n &&& 4294963200 = n / 4096 * 4096 := by
 apply Nat.eq_of_testBit_eq
 intro i
 rw [Nat.testBit_and, show (4294963200 : Nat) = (2 ^ 20 - 1) * 2 ^ 12 by decide, show (4096 : Nat) = 2 ^ 12 by decide, Nat.testBit_mul_two_pow, Nat.testBit_mul_two_pow, Nat.testBit_div_two_pow, Nat.testBit_two_pow_sub_one]
 by_cases h12 : 12 ≤ i
 ·simp only [h12, decide_true, Bool.true_and]
  rw [show i - 12 + 12 = i by omega]
  by_cases h20 : i - 12 < 20
  ·simp [h20]
  ·have : n.testBit i = false := Nat.testBit_lt_two_pow (Nat.lt_of_lt_of_le h (by
    have : 2 ^ 32 ≤ 2 ^ i := Nat.pow_le_pow_right (by omega) (by omega)
    omega))
   simp [this]
 ·simp [h12]
theorem and_u32 (n : Nat) (h : n < 4294967296) : Go.bits .and .u32 (n : Int) 4294963200 = ((n / 4096 * 4096 : Nat) : Int) := by
 rw [← and_hi n h]
 have e1 : (BitVec.ofInt 32 (n : Int)).toNat = n := by rw [BitVec.ofInt_natCast, BitVec.toNat_ofNat]; exact Nat.mod_eq_of_lt (by omega)
 show IntKind.u32.wrap (((BitVec.ofInt 32 (n : Int)) &&& (BitVec.ofInt 32 (4294963200 : Int))).toNat : Int) = _
 rw [BitVec.toNat_and, e1, show (BitVec.ofInt 32 (4294963200 : Int)).toNat = 4294963200 by decide]
 have : n &&& 4294963200 ≤ n := Nat.and_le_left
 generalize n &&& 4294963200 = z at *
 simp only [IntKind.wrap, IntKind.signed, IntKind.bits, Bool.false_and, Bool.false_eq_true, if_false]
 omega
theorem decode_all (x : Int) (h : 0 ≤ x ∧ x < 4294967296) : (inst_Decode.f 200 x).isSome = true := by
 obtain ⟨n, rfl⟩ := Int.eq_ofNat_of_zero_le h.1
 obtain ⟨z, hz, _⟩ := Decode_tot n (by omega)
 rw [hz]
 rfl
abbrev Iw (b : Int) (l : List Int) : Nat → Bl.Ins × Int := Iq b.toNat (natL l)
abbrev runq (b e : Int) (l es : List Int) : Bl.RS := Bl.rrun (Iw b l) aftq endq (fuelq l es) (Bl.rs0 e.toNat (natL es))
structure ImOk (b e : Int) (l : List Int) : Prop where
 b1 : 0 ≤ b ∧ b ≤ 4294963200
 b2 : b % 4096 = 0
 e1 : 0 ≤ e ∧ e < 4294967296
 l1 : l.length ≤ 40
 l2 : ∀ x ∈ l, 0 ≤ x ∧ x < 4294967296
structure EsOk (es : List Int) : Prop where
 l1 : es.length ≤ 100
 l2 : ∀ x ∈ es, 0 ≤ x ∧ x < 4294967296
theorem ImOk.fin {b e : Int} {l es : List Int} (h : ImOk b e l) (he : EsOk es) : Bl.FDone (Iw b l) aftq endq (natL es ++ [e.toNat]) (runq b e l es) :=
 Bl.FDone.make (Bl.find_end decq aftq endq (fun x a => (aftq_facts x a).1) b.toNat (natL l) e.toNat (natL es) (fuelq l es) (by simp [fuelq, natL])) (fun x a => (aftq_facts x a).2) (by have := h.e1; omega) (fun a ha => by obtain ⟨x, hx, rfl⟩ := List.mem_map.1 ha; have := he.l2 x hx; omega)
theorem ImOk.find {b e : Int} {l es : List Int} (h : ImOk b e l) (he : EsOk es) (s : Int) : blocks_Find.f b e l s es = some ((findq b e l es).1.map toB, (findq b e l es).2) ∧ findq b e l es = Bl.fend (Iw b l) endq (runq b e l es) := by
 refine ⟨?_, rfl⟩
 unfold blocks_Find.f
 rw [if_pos]
 have h1 := h.b1
 have h2 := h.l1
 have h3 := he.l1
 exact ⟨by omega, h.e1, by omega, by omega, fun x hx => ⟨(h.l2 x hx).1, decode_all x (h.l2 x hx)⟩, he.l2, (h.fin he).fin⟩
theorem ImOk.four {b e : Int} {l es : List Int} (h : ImOk b e l) (he : EsOk es) (a : Nat) (ha : a ∈ (runq b e l es).seen) : a % 4 = 0 ∧ a + 4 < 4294967296 := by
 obtain ⟨i, hi, rfl⟩ := Bl.insv_valid decq b.toNat (natL l) a ((h.fin he).go.ok a ha)
 have h1 := h.b1
 have h2 := h.b2
 have h3 := h.l1
 have h4 : (natL l).length = l.length := by simp [natL]
 omega
theorem ImOk.few {b e : Int} {l es : List Int} (h : ImOk b e l) (he : EsOk es) : (runq b e l es).seen.length ≤ 40 := by
 have := Bl.nodup_len (runq b e l es).seen ((List.range (natL l).length).map (fun i => b.toNat + 4 * i)) (h.fin he).inv.s1 (fun a ha => by
  obtain ⟨i, hi, rfl⟩ := Bl.insv_valid decq b.toNat (natL l) a ((h.fin he).go.ok a ha)
  exact List.mem_map.2 ⟨i, List.mem_range.2 hi, rfl⟩)
 have h3 := h.l1
 simp [natL] at this
 omega
theorem same_at (l : List (S40)) (hl : l.length < 1000000) : ∀ (d k j : Nat), j + d = l.length → d < k → whetstoneref08_Same.l0 k l l (j : Int) = some true := by
 intro d
 induction d with
 | zero =>
  intro k j hj hk
  obtain ⟨k, rfl⟩ : ∃ m, k = m + 1 := ⟨k - 1, by omega⟩
  rw [whetstoneref08_Same.l0, if_neg (by omega)]
 | succ d ih =>
  intro k j hj hk
  obtain ⟨k, rfl⟩ : ∃ m, k = m + 1 := ⟨k - 1, by omega⟩
  rw [whetstoneref08_Same.l0, if_pos (by omega), if_pos (by omega), if_pos (by omega), if_neg (by simp), show wrap64 ((j : Int) + 1) = ((j + 1 : Nat) : Int) by unfold wrap64; omega]
  exact ih k (j + 1) (by omega) (by omega)
theorem same_refl (k : Nat) (l : List (S40)) (hl : l.length < 1000000) (hk : l.length < k) : whetstoneref08_Same.f k l l = some true := by
 unfold whetstoneref08_Same.f
 rw [if_pos rfl]
 exact same_at l hl l.length k 0 (by omega) hk
theorem rdB (L : List (Nat × Nat)) (j : Nat) (x : Nat × Nat) (h : L[j]? = some x) : rd_T40 (L.map toB) (j : Int) = toB x := by
 show (L.map toB).getD (Int.toNat (j : Int)) _ = _
 rw [Int.toNat_natCast, List.getD_eq_getElem?_getD, List.getElem?_map, h]
 rfl
theorem take_sum (L : List (Nat × Nat)) (j : Nat) (x : Nat × Nat) (h : L[j]? = some x) : ((L.take (j + 1)).map Prod.snd).sum = ((L.take j).map Prod.snd).sum + x.2 := by
 rw [List.take_add_one, h]
 simp
theorem take_le (L : List (Nat × Nat)) (j : Nat) : ((L.take j).map Prod.snd).sum ≤ (L.map Prod.snd).sum := by
 conv => rhs; rw [← List.take_append_drop j L]
 rw [List.map_append, List.sum_append]
 omega
theorem more_l1 (L M : List (Nat × Nat)) (hs : (M.map Prod.snd).sum ≤ 1000) (hl : M.length ≤ 1000) (a : Nat) (h1 : a ≤ (M.map Prod.snd).sum) (h2 : L.length ≤ M.length) : ∀ (d j k : Nat), j + d = M.length → whetstonelaw08_BlocksMore.l1 (k + d + 1) (L.map toB) (M.map toB) (a : Int) ((((M.take j).map Prod.snd).sum : Nat) : Int) (j : Int) = some true
 | 0, j, k, h => by
  rw [show k + 0 + 1 = k + 1 from rfl, whetstonelaw08_BlocksMore.l1, if_neg (by simp; omega), List.take_of_length_le (by omega), if_pos (by omega), if_pos (by simp; omega)]
  rfl
 | d + 1, j, k, h => by
  have hj : j < M.length := by omega
  have hx : M[j]? = some M[j] := List.getElem?_eq_getElem hj
  have ht := take_sum M j _ hx
  have hb := take_le M (j + 1)
  rw [show k + (d + 1) + 1 = (k + d + 1) + 1 by omega, whetstonelaw08_BlocksMore.l1, if_pos (by simp; omega), if_pos (by omega), rdB M j _ hx]
  rw [show wrap64 ((((M.take j).map Prod.snd).sum : Nat) + (toB M[j]).f1) = ((((M.take (j + 1)).map Prod.snd).sum : Nat) : Int) by
   rw [ht]
   show wrap64 (_ + ((M[j].2 : Nat) : Int)) = _
   unfold wrap64
   omega, show wrap64 ((j : Int) + 1) = ((j + 1 : Nat) : Int) by unfold wrap64; omega]
  exact more_l1 L M hs hl a h1 h2 d (j + 1) k (by omega)
theorem more_l0 (L M : List (Nat × Nat)) (hs : (L.map Prod.snd).sum ≤ 1000) (hl : L.length ≤ 1000) (k' : Nat) : ∀ (d j k : Nat), j + d = L.length → whetstonelaw08_BlocksMore.l0 (k + d + 1) (L.map toB) (M.map toB) ((((L.take j).map Prod.snd).sum : Nat) : Int) 0 (j : Int) = whetstonelaw08_BlocksMore.l1 k (L.map toB) (M.map toB) (((L.map Prod.snd).sum : Nat) : Int) 0 0
 | 0, j, k, h => by
  rw [show k + 0 + 1 = k + 1 from rfl, whetstonelaw08_BlocksMore.l0, if_neg (by simp; omega), List.take_of_length_le (by omega)]
 | d + 1, j, k, h => by
  have hj : j < L.length := by omega
  have hx : L[j]? = some L[j] := List.getElem?_eq_getElem hj
  have ht := take_sum L j _ hx
  have hb := take_le L (j + 1)
  rw [show k + (d + 1) + 1 = (k + d + 1) + 1 by omega, whetstonelaw08_BlocksMore.l0, if_pos (by simp; omega), if_pos (by omega), rdB L j _ hx]
  rw [show wrap64 ((((L.take j).map Prod.snd).sum : Nat) + (toB L[j]).f1) = ((((L.take (j + 1)).map Prod.snd).sum : Nat) : Int) by
   rw [ht]
   show wrap64 (_ + ((L[j].2 : Nat) : Int)) = _
   unfold wrap64
   omega, show wrap64 ((j : Int) + 1) = ((j + 1 : Nat) : Int) by unfold wrap64; omega]
  exact more_l0 L M hs hl k' d (j + 1) k (by omega)
theorem len_sum (L : List (Nat × Nat)) : L.length = (L.map Prod.fst).length := by simp
theorem FDone_len {b e : Int} {l es : List Int} (h : ImOk b e l) (he : EsOk es) : (findq b e l es).1.length ≤ 40 ∧ ((findq b e l es).1.map Prod.snd).sum ≤ 40 := by
 have hf := h.fin he
 have hw := h.few he
 rw [(h.find he 0).2]
 by_cases hb : (runq b e l es).bad = []
 ·obtain ⟨c1, c2⟩ := hf.counts (h.four he) hb
  refine ⟨?_, by rw [c1]; exact hw⟩
  rw [len_sum, c2]
  exact Nat.le_trans (List.length_filter_le _ _) (by rw [Bl.sortv_length]; exact hw)
 ·rw [hf.err.2.1 hb]
  simp
theorem law_BlocksMore (b0 e0 : Int) (l : List Int) (s : Int) (l1 : List Int) (a2 : Int) (hb0 : 0 ≤ b0 ∧ b0 < 4294967296) (he0 : 0 ≤ e0 ∧ e0 < 4294967296) (hl : ∀ x ∈ l, 0 ≤ x ∧ x < 4294967296) (hl1 : ∀ x ∈ l1, 0 ≤ x ∧ x < 4294967296) (ha2 : 0 ≤ a2 ∧ a2 < 4294967296) :
  whetstonelaw08_BlocksMore.f 200 b0 e0 l s l1 a2 = some true := by
 obtain ⟨n, rfl⟩ := Int.eq_ofNat_of_zero_le hb0.1
 have hT : whetstonelaw08_Text.f (n : Int) e0 l s = some (((n / 4096 * 4096 : Nat) : Int), e0, l.take 40, 0) := by
  unfold whetstonelaw08_Text.f
  rw [if_pos (fun x hx => (hl x hx).1), and_u32 n (by omega)]
 obtain ⟨B, hB⟩ : ∃ B : Int, ((n / 4096 * 4096 : Nat) : Int) = B := ⟨_, rfl⟩
 rw [hB] at hT
 obtain ⟨es, hes⟩ : ∃ es : List Int, l1.take (mn (l1.length : Int) 8).toNat = es := ⟨_, rfl⟩
 have hmn : 0 ≤ mn (l1.length : Int) 8 ∧ mn (l1.length : Int) 8 ≤ (l1.length : Int) ∧ mn (l1.length : Int) 8 ≤ 8 := by
  unfold mn
  split <;> omega
 have he : ∀ x ∈ es, 0 ≤ x ∧ x < 4294967296 := fun x hx => hl1 x (List.mem_of_mem_take (hes ▸ hx))
 have hel : es.length ≤ 8 := by
  rw [← hes, List.length_take]
  omega
 have I : ImOk B e0 (l.take 40) := ⟨by omega, by omega, he0, by rw [List.length_take]; omega, fun x hx => hl x (List.mem_of_mem_take hx)⟩
 generalize l.take 40 = lt at I hT
 have k1 : EsOk es := ⟨by omega, he⟩
 have k2 : EsOk (es ++ [e0] ++ es) := ⟨by simp; omega, fun x hx => by
  simp only [List.mem_append, List.mem_singleton] at hx
  rcases hx with (hx | rfl) | hx
  ·exact he x hx
  ·exact he0
  ·exact he x hx⟩
 have k3 : EsOk (es ++ [e0] ++ [a2]) := ⟨by simp; omega, fun x hx => by
  simp only [List.mem_append, List.mem_singleton] at hx
  rcases hx with (hx | rfl) | rfl
  ·exact he x hx
  ·exact he0
  ·exact ha2⟩
 have e12 : findq B e0 lt (es ++ [e0] ++ es) = findq B e0 lt es := by
  rw [(I.find k2 0).2, (I.find k1 0).2]
  refine Bl.FDone.same (I.fin k2) (I.fin k1) fun a => ?_
  unfold natL
  simp only [List.map_append, List.mem_append, List.map_cons, List.map_nil, List.mem_singleton]
  constructor
  ·rintro (((h | h) | h) | h) <;> first | exact .inl h | exact .inr h
  ·rintro (h | h)
   ·exact .inl (.inr h)
   ·exact .inr h
 have hp : ∀ x a, endq x = false → aftq x a = [Bl.nextv a] := fun x a h => aftq_plain x a h
 have hS : ∀ a ∈ natL es ++ [e0.toNat], a ∈ natL (es ++ [e0] ++ [a2]) ++ [e0.toNat] := fun a ha => by
  unfold natL at ha ⊢
  simp only [List.map_append, List.mem_append, List.map_cons, List.map_nil, List.mem_singleton] at ha ⊢
  rcases ha with h | h
  ·exact .inl (.inl (.inl h))
  ·exact .inr h
 have hm : (findq B e0 lt (es ++ [e0] ++ [a2])).2 = 0 → (findq B e0 lt es).2 = 0 ∧ ((findq B e0 lt es).1.map Prod.snd).sum ≤ ((findq B e0 lt (es ++ [e0] ++ [a2])).1.map Prod.snd).sum ∧ (findq B e0 lt es).1.length ≤ (findq B e0 lt (es ++ [e0] ++ [a2])).1.length := by
  rw [(I.find k3 0).2, (I.find k1 0).2]
  intro h0
  have hb := (I.fin k3).err.1.1 h0
  have h1 := (Bl.FDone.more (I.fin k1) (I.fin k3) hS hb).1
  exact ⟨(I.fin k1).err.1.2 h1, Bl.FDone.more_blocks (I.fin k1) (I.fin k3) hS hp (I.four k1) (I.four k3) hb⟩
 have n1 := FDone_len I k1
 have n3 := FDone_len I k3
 have f1 := (I.find k1 0).1
 have f2 := (I.find k2 0).1
 have f3 := (I.find k3 0).1
 rw [e12] at f2
 generalize findq B e0 lt (es ++ [e0] ++ [a2]) = q3 at hm n3 f3
 generalize findq B e0 lt es = q1 at hm n1 f1 f2
 obtain ⟨F1, E1⟩ := q1
 obtain ⟨F3, E3⟩ := q3
 dsimp only at hm n1 n3 f1 f2 f3
 unfold whetstonelaw08_BlocksMore.f
 rw [hT, obs, if_pos hmn.1, if_pos hmn.2.1, hes]
 simp only [List.nil_append, obs]
 rw [f1, obs, if_pos (by simp; omega), if_pos (by omega), if_pos (by simp; omega), if_pos (by simp; omega), f2, obs, if_pos rfl, same_refl 200 _ (by simp; omega) (by simp; omega), obs, whetstonelaw08_BlocksMore.j0, if_neg (by decide), if_pos (by simp; omega), f3, obs]
 have hfix : whetstonelaw08_fixed.f = some true := rfl
 by_cases z1 : E1 = 0
 ·subst z1
  rw [if_pos rfl]
  by_cases z3 : E3 = 0
  ·subst z3
   obtain ⟨_, g1, g2⟩ := hm rfl
   rw [whetstonelaw08_BlocksMore.j1, if_neg (by simp)]
   have q0 := more_l0 F1 F3 (by omega) (by omega) 0 F1.length 0 (197 - F1.length) (by omega)
   rw [show 197 - F1.length + F1.length + 1 = 198 by omega] at q0
   refine q0.trans ?_
   have q1 := more_l1 F1 F3 (by omega) (by omega) (F1.map Prod.snd).sum g1 g2 F3.length 0 (196 - F1.length - F3.length) (by omega)
   rw [show 196 - F1.length - F3.length + F3.length + 1 = 197 - F1.length by omega] at q1
   exact q1
  ·rw [whetstonelaw08_BlocksMore.j1, if_pos (by simpa using z3), if_pos rfl, hfix]
   rfl
 ·rw [if_neg z1, whetstonelaw08_BlocksMore.j1, if_pos rfl, if_neg z1, if_neg (fun h => z1 (hm h).1), hfix]
  rfl
theorem walk_BlocksMore (a0 a1 : Int) (A : Option Addr) (c : Nat) (l : List Int) (s : Int) (A1 : Option Addr) (c1 : Nat) (l1 : List Int) (a2 : Int) (W : World) (w0 : (Lit.int .u32 a0).wf = true) (w1 : (Lit.int .u32 a1).wf = true) (C : Kd.C (Kd.int .u32) W A l.length l) (b : l.length ≤ c) (m : c ≤ maxLen) (hw : ∀ x ∈ l, (Lit.int .u32 x).wf = true) (ws : (Lit.int .i64 s).wf = true)
  (C1 : Kd.C (Kd.int .u32) W A1 l1.length l1) (b1 : l1.length ≤ c1) (m1 : c1 ≤ maxLen) (hw1 : ∀ x ∈ l1, (Lit.int .u32 x).wf = true) (w2 : (Lit.int .u32 a2).wf = true) :
  Calls Try.prog 7 #[.agg #[.int .u32 a0, .int .u32 a1, .slice A l.length c, .int .i64 s], .slice A1 l1.length c1, .int .u32 a2] W fun e w' => e = .returned (.bool true) ∧ Below W.heap.size W w' :=
 whetstonelaw08_BlocksMore.calls 200 a0 a1 A c l s A1 c1 l1 a2 true W C b C1 b1 (law_BlocksMore a0 a1 l s l1 a2 (of_u32w w0) (of_u32w w1) (fun x hx => of_u32w (hw x hx)) (fun x hx => of_u32w (hw1 x hx)) (of_u32w w2))
end Go.Proofs.Ytekenddkoahjgaa.Q
