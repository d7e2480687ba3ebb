import Derived.Test.YtekenddkoahjgaaHQx9
import Derived.Test.YtekenddkoahjgaaHQx32
import Derived.Test.YtekenddkoahjgaaHQx33
import Derived.Test.YtekenddkoahjgaaHQx37
import Derived.Test.YtekenddkoahjgaaHQx45
import Derived.Test.YtekenddkoahjgaaHPG
import Derived.Test.YtekenddkoahjgaaHLB
import Derived.WalkKit
import Derived.Outline
/- Layer 8: what the law PN answers. -/
namespace Go.Proofs.Ytekenddkoahjgaa.Q
open Go.RowKit Go.Proofs.YtekenddkoahjgaaW.PrintWords Go.Proofs.YtekenddkoahjgaaW.PrintLast Go.Proofs.YtekenddkoahjgaaW.PrintMore
set_option linter.unusedVariables false
set_option linter.unusedSimpArgs false
theorem text_of (b0 e0 : Int) (l : List Int) (s : Int) (l1 : List Int) (hb0 : 0 ≤ b0 ∧ b0 < 4294967296) (he0 : 0 ≤ e0 ∧ e0 < 4294967296) (hl : ∀ x ∈ l, 0 ≤ x ∧ x < 4294967296) (hl1 : ∀ x ∈ l1, 0 ≤ x ∧ x < 4294967296) :
  ∃ (B : Int) (lt es : List Int), w08_Text.f b0 e0 l s = some (B, e0, lt, 0) ∧ (0 ≤ mn (l1.length : Int) 8 ∧ mn (l1.length : Int) 8 ≤ (l1.length : Int) ∧ mn (l1.length : Int) 8 ≤ 8) ∧ l1.take (mn (l1.length : Int) 8).toNat = es ∧ ImOk B e0 lt ∧ EsOk es := by
 obtain ⟨n, rfl⟩ := Int.eq_ofNat_of_zero_le hb0.1
 have hmn : 0 ≤ mn (l1.length : Int) 8 ∧ mn (l1.length : Int) 8 ≤ (l1.length : Int) ∧ mn (l1.length : Int) 8 ≤ 8 := by
  unfold mn
  split <;> omega
 refine ⟨((n / 4096 * 4096 : Nat) : Int), l.take 40, _, ?_, hmn, rfl, ⟨by omega, by omega, he0, by rw [List.length_take]; omega, fun x hx => hl x (List.mem_of_mem_take hx)⟩, ⟨?_, fun x hx => hl1 x (List.mem_of_mem_take hx)⟩⟩
 ·unfold w08_Text.f
  rw [if_pos (fun x hx => (hl x hx).1), and_u32 n (by omega)]
 ·rw [List.length_take]
  omega
theorem ImOk.rfind {b e : Int} {l es : List Int} (h : ImOk b e l) (he : EsOk es) (s : Int) : r08_Find.f b e l s es = some ((findq b e l es).1.map toB, (findq b e l es).2) := by
 unfold r08_Find.f
 rw [if_pos]
 have h1 := h.b1
 have h2 := h.l1
 have h3 := he.l1
 exact ⟨⟨by omega, h.e1, by omega, by omega, fun x hx => ⟨(h.l2 x hx).1, decode_all x (h.l2 x hx)⟩, he.l2, (h.fin he).fin⟩, by omega, fun x hx => (h.l2 x hx).2⟩
theorem idx_from (t : List Nat) (c : Nat) (ht : t.length < 1000) : ∀ (d j : Nat), j + d = t.length → (c ∉ t.take j) → Ev (fun k => ∃ r, slices_Index_uint32_uint32.l0 k (castL t) (c : Int) ((castL t).length : Int) (j : Int) = some r ∧ decide (r ≥ 0) = decide (c ∈ t))
 | 0, j, h, hn => Ev.one fun k => ⟨-1, by
  rw [slices_Index_uint32_uint32.l0, if_neg (by simp [castL]; omega)], by
  rw [decide_eq_false (p := c ∈ t) (by rwa [List.take_of_length_le (by omega)] at hn)]; rfl⟩
 | d + 1, j, h, hn => by
  have hj : j < t.length := by omega
  have hx : (castL t)[j]? = some (t[j] : Int) := by simp [castL, List.getElem?_eq_getElem hj]
  by_cases he : t[j] = c
  ·refine Ev.one fun k => ⟨(j : Int), ?_, ?_⟩
   ·rw [slices_Index_uint32_uint32.l0, if_pos (by simp [castL]; omega), if_pos (by omega), if_pos (by simp [castL]; omega), rd_at _ j _ hx, if_pos (by omega)]
   ·rw [decide_eq_true (p := c ∈ t) (by rw [← he]; exact List.getElem_mem hj), decide_eq_true (by omega)]
  ·refine (idx_from t c ht d (j + 1) (by omega) (fun hm => ?_)).step fun k hk => ?_
   ·rw [List.take_add_one, List.getElem?_eq_getElem hj] at hm
    rcases List.mem_append.1 hm with hm | hm
    ·exact hn hm
    ·simp at hm
     exact he hm.symm
   ·obtain ⟨r, h1, h2⟩ := hk
    refine ⟨r, ?_, h2⟩
    rw [slices_Index_uint32_uint32.l0, if_pos (by simp [castL]; omega), if_pos (by omega), if_pos (by simp [castL]; omega), rd_at _ j _ hx, if_neg (by omega), wrap_nat j (by omega)]
    exact h1
theorem contains_ev (t : List Nat) (c : Nat) (ht : t.length < 1000) : Ev (fun k => slices_Contains_uint32_uint32.f k (castL t) (c : Int) = some (decide (c ∈ t))) := (idx_from t c ht t.length 0 (Nat.zero_add _) (by simp)).mono fun k hk => by
 obtain ⟨r, h1, h2⟩ := hk
 have h1' : slices_Index_uint32_uint32.f k (castL t) (c : Int) = some r := h1
 unfold slices_Contains_uint32_uint32.f
 rw [h1', obs, h2]
theorem nextP (t : List Nat) (ht : t.length < 1000) (L : List (Nat × Nat)) (hL : L.length < 1000) (op rd u v m : Int) : ∀ (d j : Nat), j + d = L.length →
  Ev (fun k => blocks_Next.l0 k (castL t) (castL (Bl.nextl t L j)) (L.map toB) ((L.map toB).length : Int) (j : Int) op rd u v m = some (castL (Bl.nextl t L L.length), op == 3))
 | 0, j, h => Ev.one fun k => by
  obtain rfl : L.length = j := by omega
  rw [blocks_Next.l0, if_neg (by simp)]
 | d + 1, j, h => by
  have hj : j < L.length := by omega
  have hx : L[j]? = some L[j] := List.getElem?_eq_getElem hj
  have hn := Bl.nextl_len t L j
  refine ((nextP t ht L hL op rd u v m d (j + 1) (by omega)).and (contains_ev t L[j].1 ht)).step fun k hk => ?_
  rw [Bl.nextl_succ t L j _ hx] at hk
  rw [blocks_Next.l0, if_pos (by simp; omega), if_pos (by omega), if_pos (by simp; omega), rdB L j _ hx, wrap_nat j (by omega)]
  have e0 : (toB L[j]).f0 = (L[j].1 : Int) := rfl
  rw [e0, hk.2, obs]
  by_cases hc : L[j].1 ∈ t
  ·rw [if_pos (decide_eq_true hc), if_pos (by simp [castL]; omega)]
   rw [if_pos hc] at hk
   have e : castL (Bl.nextl t L j) ++ [(j : Int)] = castL (Bl.nextl t L j ++ [j]) := by unfold castL; rw [List.map_append]; rfl
   rw [e]
   exact hk.1
  ·rw [if_neg (by simpa using hc)]
   rw [if_neg hc, List.append_nil] at hk
   exact hk.1
def lastI (b : Int) (lt : List Int) (x : Nat × Nat) : Bl.Ins := (Iw b lt (x.1 + 4 * (x.2 - 1))).1
def nextq (b : Int) (lt : List Int) (L : List (Nat × Nat)) (x : Nat × Nat) : List Nat := Bl.nextl (aftq (lastI b lt x) (x.1 + 4 * (x.2 - 1))) L L.length
theorem at_blk {x : Nat × Nat} (h1 : 1 ≤ x.2) (h2 : x.2 ≤ 40) (h3 : x.1 + 4 * x.2 < 4294967296) : (((toB x).f0) + (wrap64 (4 * (wrap64 (((toB x).f1) - 1))))) % 4294967296 = ((x.1 + 4 * (x.2 - 1) : Nat) : Int) := by
 have e0 : (toB x).f0 = (x.1 : Int) := rfl
 have e1 : (toB x).f1 = (x.2 : Int) := rfl
 rw [e0, e1]
 unfold wrap64
 omega
theorem toN_toB (L : List (Nat × Nat)) : (L.map toB).map toN = L := by
 rw [List.map_map]
 refine (List.map_congr_left fun x _ => ?_).trans (List.map_id' _)
 show ((x.1 : Int).toNat, (x.2 : Int).toNat) = x
 simp
structure BOk (b : Int) (lt : List Int) (L : List (Nat × Nat)) : Prop where
 n : ∀ x ∈ L, 1 ≤ x.2 ∧ x.2 ≤ 40
 len : L.length ≤ 40
 hi : ∀ x ∈ L, x.1 + 4 * x.2 < 4294967296
 ok : ∀ x ∈ L, ∀ i, i < x.2 → (Iw b lt (x.1 + 4 * i)).2 = 0
theorem WOk.bok {b e : Int} {lt : List Int} {L : List (Nat × Nat)} (W : WOk b e lt L) : BOk b lt L := ⟨W.n, W.len, W.hi, W.ok⟩
theorem rnext_f {b e : Int} {lt : List Int} {L : List (Nat × Nat)} (I : ImOk b e lt) (W : BOk b lt L) (s k : Int) : r08_Next.f b e lt s (L.map toB) k = some (castL (Bl.nxtv (Iw b lt) aftq L k).1, (Bl.nxtv (Iw b lt) aftq L k).2) := by
 unfold r08_Next.f
 rw [if_pos]
 ·unfold rnextq
  rw [toN_toB]
 ·refine ⟨by have := I.b1; omega, by have := I.l1; omega, I.l2, by have := W.len; simp; omega, fun y hy => ?_⟩
  obtain ⟨x, hx, rfl⟩ := List.mem_map.1 hy
  have h1 := W.n x hx
  have h2 := W.hi x hx
  have e0 : (toB x).f0 = (x.1 : Int) := rfl
  have e1 : (toB x).f1 = (x.2 : Int) := rfl
  rw [e0, e1]
  omega
theorem adN_eq {x : Nat × Nat} (h : x.1 + 4 * x.2 < 4294967296) (h1 : 1 ≤ x.2) : Bl.adN x = x.1 + 4 * (x.2 - 1) := by
 unfold Bl.adN
 omega
theorem nxtv_in {b : Int} {lt : List Int} {L : List (Nat × Nat)} (W : BOk b lt L) (k : Nat) (x : Nat × Nat) (hx : L[k]? = some x) : Bl.nxtv (Iw b lt) aftq L (k : Int) = (nextq b lt L x, (lastI b lt x).1 == 3) := by
 have hm := List.mem_of_getElem? hx
 have h1 := W.n x hm
 unfold Bl.nxtv
 rw [if_neg (by omega), Int.toNat_natCast, hx]
 dsimp only
 rw [adN_eq (W.hi x hm) h1.1, W.ok x hm _ (by omega), if_neg (by simp)]
 rfl
theorem pnext_ev {b e : Int} {lt : List Int} {L : List (Nat × Nat)} (I : ImOk b e lt) (W : BOk b lt L) (s k : Int) : Ev (fun n => blocks_Next.f n b e lt s (L.map toB) k = some (castL (Bl.nxtv (Iw b lt) aftq L k).1, (Bl.nxtv (Iw b lt) aftq L k).2)) := by
 by_cases hk : k < 0
 ·refine Ev.one fun n => ?_
  unfold blocks_Next.f Bl.nxtv
  rw [if_pos hk, if_pos hk, blocks_Next.j0, if_pos rfl]
  rfl
 obtain ⟨k, rfl⟩ := Int.eq_ofNat_of_zero_le (show 0 ≤ k by omega)
 by_cases hl : L.length ≤ k
 ·refine Ev.one fun n => ?_
  unfold blocks_Next.f Bl.nxtv
  rw [if_neg hk, if_neg hk, Int.toNat_natCast, List.getElem?_eq_none hl, decide_eq_true (by simp; omega), blocks_Next.j0, if_pos rfl]
  rfl
 obtain ⟨x, hx⟩ : ∃ x, L[k]? = some x := ⟨_, List.getElem?_eq_getElem (by omega)⟩
 have hm := List.mem_of_getElem? hx
 have h1 := W.n x hm
 have h3 := W.hi x hm
 rw [nxtv_in W k x hx]
 have ha : x.1 + 4 * (x.2 - 1) < 4294967296 := by omega
 have hA := blocks_at_eq b e lt s (x.1 + 4 * (x.2 - 1)) (by have := I.b1; omega) ha (by have := I.l1; omega) (fun y hy => ⟨(I.l2 y hy).1, decode_all y (I.l2 y hy)⟩)
 rw [W.ok x hm _ (by omega)] at hA
 have ht := (aftq_facts (lastI b lt x) (x.1 + 4 * (x.2 - 1))).1
 have hj : Ev (fun n => blocks_Next.j0 n (L.map toB) (k : Int) false b e lt s = some (castL (nextq b lt L x), (lastI b lt x).1 == 3)) := by
  refine ((nextP (aftq (lastI b lt x) (x.1 + 4 * (x.2 - 1))) (by omega) L (by have := W.len; omega) (lastI b lt x).1 (lastI b lt x).2.1 (lastI b lt x).2.2.1 (lastI b lt x).2.2.2.1 (lastI b lt x).2.2.2.2 L.length 0 (Nat.zero_add _)).and (Ev.of 200 fun n hn => at_rounds (blocks_at.mono b e lt s _) hn hA)).step fun n hn => ?_
  rw [blocks_Next.j0, if_neg (by decide), if_pos (by omega), if_pos (by simp; omega), rdB L k x hx, at_blk h1.1 h1.2 h3, hn.2, obs, if_pos rfl]
  rw [show (Iq b.toNat (natL lt) (x.1 + 4 * (x.2 - 1))).1 = lastI b lt x from rfl]
  dsimp only
  rw [pAft (lastI b lt x) _ ha, obs]
  exact hn.1
 refine hj.mono fun n hn => ?_
 unfold blocks_Next.f
 rw [if_neg (by omega), decide_eq_false (by simp; omega)]
 exact hn
theorem nxtv_len (I : Nat → Bl.Ins × Int) (aft : Bl.Ins → Nat → List Nat) (L : List (Nat × Nat)) (k : Int) : (Bl.nxtv I aft L k).1.length ≤ L.length := by
 unfold Bl.nxtv
 split
 ·exact Nat.zero_le _
 ·split
  ·exact Nat.zero_le _
  ·split
   ·exact Nat.zero_le _
   ·exact Bl.nextl_len _ _ _
end Go.Proofs.Ytekenddkoahjgaa.Q
