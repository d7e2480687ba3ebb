import Derived.Test.YtekenddkoahjgaaUQx0
import Derived.Test.YtekenddkoahjgaaUQx10
import Derived.Test.YtekenddkoahjgaaUQx28
import Derived.Test.YtekenddkoahjgaaUQx30
import Derived.Test.YtekenddkoahjgaaUQx39
import Derived.Test.YtekenddkoahjgaaUPWBlocksGo
import Derived.WalkKit
import Derived.Outline
/- Layer 8: what the law PureBlocksAlone answers. -/
namespace Go.Proofs.Ytekenddkoahjgaa.Q
open Go.RowKit Go.Proofs.YtekenddkoahjgaaW.PrintWords Go.Proofs.YtekenddkoahjgaaW.PrintLast Go.Proofs.YtekenddkoahjgaaW.PrintMore
set_option linter.unusedVariables false
set_option linter.unusedSimpArgs false
theorem two_pow_le (j n : Nat) (h : j ≤ n) : 2 ^ j ≤ 2 ^ n := Nat.pow_le_pow_right (by omega) h
theorem of_i64 {x : Int} (h : (Lit.int .i64 x).wf = true) : -9223372036854775808 ≤ x ∧ x ≤ 9223372036854775807 := by
 simp [Lit.wf, IntKind.min, IntKind.max, IntKind.signed, IntKind.bits] at h
 exact ⟨by omega, by omega⟩
theorem and_i64 (x : Int) (h : -9223372036854775808 ≤ x ∧ x ≤ 9223372036854775807) (n : Nat) (hn : n ≤ 32) : Go.bits .and .i64 x ((2 ^ n - 1 : Nat) : Int) = x % ((2 ^ n : Nat) : Int) := by
 have h1 := two_pow_le n 32 hn
 have h0 : 0 < 2 ^ n := Nat.pow_pos (by omega)
 have e1 : (BitVec.ofInt 64 x).toNat = (x % 18446744073709551616).toNat := by rw [BitVec.toNat_ofInt]; rfl
 have e2 : (BitVec.ofInt 64 ((2 ^ n - 1 : Nat) : Int)).toNat = 2 ^ n - 1 := by
  rw [BitVec.ofInt_natCast, BitVec.toNat_ofNat]; exact Nat.mod_eq_of_lt (by omega)
 show IntKind.i64.wrap ((BitVec.ofInt 64 x &&& BitVec.ofInt 64 ((2 ^ n - 1 : Nat) : Int)).toNat : Int) = _
 rw [BitVec.toNat_and, e1, e2, Nat.and_two_pow_sub_one_eq_mod, Int.natCast_emod, Int.toNat_of_nonneg (by omega)]
 have e3 : x % 18446744073709551616 % ((2 ^ n : Nat) : Int) = x % ((2 ^ n : Nat) : Int) := by
  apply Int.emod_emod_of_dvd
  refine ⟨((2 ^ (64 - n) : Nat) : Int), ?_⟩
  rw [← Int.natCast_mul, ← Nat.pow_add, show n + (64 - n) = 64 by omega]
  rfl
 rw [e3, IntKind.wrap_i64]
 have h2 := Int.emod_nonneg x (b := ((2 ^ n : Nat) : Int)) (by omega)
 have h3 := Int.emod_lt_of_pos x (b := ((2 ^ n : Nat) : Int)) (by omega)
 generalize x % ((2 ^ n : Nat) : Int) = r at *
 omega
theorem rstep_congr {I : Nat → Bl.Ins × Int} {aft aft' : Bl.Ins → Nat → List Nat} {nd nd' : Bl.Ins → Bool} (h1 : ∀ a, aft (I a).1 a = aft' (I a).1 a) (h2 : ∀ a, nd (I a).1 = nd' (I a).1) (s : Bl.RS) : Bl.rstep I aft nd s = Bl.rstep I aft' nd' s := by
 unfold Bl.rstep
 simp only [h1, h2]
theorem rrun_congr {I : Nat → Bl.Ins × Int} {aft aft' : Bl.Ins → Nat → List Nat} {nd nd' : Bl.Ins → Bool} (h1 : ∀ a, aft (I a).1 a = aft' (I a).1 a) (h2 : ∀ a, nd (I a).1 = nd' (I a).1) : ∀ (k : Nat) (s : Bl.RS), Bl.rrun I aft nd k s = Bl.rrun I aft' nd' k s
 | 0, s => rfl
 | k + 1, s => by
  show Bl.rrun I aft nd k (Bl.rstep I aft nd s) = Bl.rrun I aft' nd' k (Bl.rstep I aft' nd' s)
  rw [rstep_congr h1 h2, rrun_congr h1 h2 k]
theorem findv_congr {I : Nat → Bl.Ins × Int} {aft aft' : Bl.Ins → Nat → List Nat} {nd nd' : Bl.Ins → Bool} (h1 : ∀ a, aft (I a).1 a = aft' (I a).1 a) (h2 : ∀ a, nd (I a).1 = nd' (I a).1) (n E : Nat) (es : List Nat) : Bl.findv I aft nd n E es = Bl.findv I aft' nd' n E es := by
 unfold Bl.findv
 rw [rrun_congr h1 h2]
 have e : Bl.bstep I nd (Bl.rrun I aft' nd' n (Bl.rs0 E es)).lead = Bl.bstep I nd' (Bl.rrun I aft' nd' n (Bl.rs0 E es)).lead := by
  funext s a
  unfold Bl.bstep
  rw [h2]
 rw [e]
def wsA (m : Nat) : List Nat := List.replicate m 19 ++ [1048691]
def IA (m : Nat) (a : Nat) : Bl.Ins × Int :=
 match Bl.wordv 8192 (wsA m) a with
 | none => (Bl.ins0, 81)
 | some v => if v = 19 then ((18, 0, 0, 0, 0), 0) else ((46, 0, 0, 0, 0), 0)
def aftA (x : Bl.Ins) (a : Nat) : List Nat := if x.1 = 46 then [] else [Bl.nextv a]
def endA (x : Bl.Ins) : Bool := decide (x.1 = 46)
theorem dec19 : decq 19 = ((18, 0, 0, 0, 0), 0) ∧ decq 1048691 = ((46, 0, 0, 0, 0), 0) := by decide +kernel
theorem IA_eq (m : Nat) : Iq 8192 (wsA m) = IA m := by
 funext a
 unfold Iq Bl.insv IA
 cases h : Bl.wordv 8192 (wsA m) a with
 | none => rfl
 | some v =>
  have hv : v = 19 ∨ v = 1048691 := by
   unfold Bl.wordv at h
   split at h
   ·have := List.mem_of_getElem? h
    rcases List.mem_append.1 this with h | h
    ·exact .inl (List.mem_replicate.1 h).2
    ·exact .inr (List.mem_singleton.1 h)
   ·cases h
  rcases hv with rfl | rfl
  ·simp only [dec19.1]; rfl
  ·simp only [dec19.2]; rfl
theorem IA_ins (m a : Nat) : (IA m a).1 = Bl.ins0 ∨ (IA m a).1 = (18, 0, 0, 0, 0) ∨ (IA m a).1 = (46, 0, 0, 0, 0) := by
 unfold IA
 split
 ·exact .inl rfl
 ·split
  ·exact .inr (.inl rfl)
  ·exact .inr (.inr rfl)
theorem endA3 : endq Bl.ins0 = false ∧ endq (18, 0, 0, 0, 0) = false ∧ endq (46, 0, 0, 0, 0) = true := by decide +kernel
theorem aftA_eq (m a : Nat) : aftq (IA m a).1 a = aftA (IA m a).1 a := by
 rcases IA_ins m a with h | h | h
 ·rw [h, aftq_plain _ _ endA3.1]; rfl
 ·rw [h, aftq_plain _ _ endA3.2.1]; rfl
 ·rw [h]
  unfold aftq Bl.aftv aftA
  rw [if_pos (Or.inr rfl), if_pos rfl]
theorem endA_eq (m a : Nat) : endq (IA m a).1 = endA (IA m a).1 := by
 rcases IA_ins m a with h | h | h
 ·rw [h, endA3.1]; rfl
 ·rw [h, endA3.2.1]; rfl
 ·rw [h, endA3.2.2]; rfl
def tellA (m : Nat) (es : List Nat) : Bool × List (Nat × Nat) × Int := (decide ((Bl.rrun (IA m) aftA endA (2 * (m + 1) + es.length + 1) (Bl.rs0 8192 es)).left = []), Bl.findv (IA m) aftA endA (2 * (m + 1) + es.length + 1) 8192 es)
theorem tell_none : ∀ n : Fin 30, tellA (n.val + 1) [] = (true, [(8192, n.val + 2)], 0) := by decide +kernel
theorem tell_one : ∀ n : Fin 30, ∀ c : Fin 30, c.val ≤ n.val → tellA (n.val + 1) [8192 + 4 * c.val] = (true, (if c.val = 0 then [(8192, n.val + 2)] else [(8192, c.val), (8192 + 4 * c.val, n.val + 2 - c.val)]), 0) := by decide +kernel
theorem castL_nat (l : List Nat) : natL (castL l) = l := by
 unfold natL castL
 rw [List.map_map]
 exact (List.map_congr_left fun x _ => Int.toNat_natCast x).trans (List.map_id' l)
theorem dec_some : (inst_Decode.f 200 19).isSome = true ∧ (inst_Decode.f 200 1048691).isSome = true := by decide +kernel
theorem find_A (m : Nat) (hm : m ≤ 100) (es : List Nat) (he : es.length ≤ 100) (he2 : ∀ x ∈ es, x < 4294967296) (R : List (Nat × Nat) × Int) (h : tellA m es = (true, R)) : blocks_Find.f 8192 8192 (castL (wsA m)) 0 (castL es) = some (R.1.map toB, R.2) := by
 have hl : (castL (wsA m)).length = m + 1 := by simp [castL, wsA]
 have hle : (castL es).length = es.length := by simp [castL]
 have hf : fuelq (castL (wsA m)) (castL es) = 2 * (m + 1) + es.length + 1 := by unfold fuelq; rw [hl, hle]
 have hI : Iq (8192 : Int).toNat (natL (castL (wsA m))) = IA m := by rw [castL_nat]; exact IA_eq m
 obtain ⟨h1, h2⟩ := Prod.mk.inj h
 have hR : findq 8192 8192 (castL (wsA m)) (castL es) = R := by
  unfold findq
  rw [hI, hf, castL_nat es, findv_congr (aftA_eq m) (endA_eq m)]
  exact h2
 have ok : okFind 8192 8192 (castL (wsA m)) (castL es) := by
  refine ⟨by decide, by decide, by omega, by omega, fun x hx => ?_, fun x hx => ?_, ?_⟩
  ·obtain ⟨y, hy, rfl⟩ := List.mem_map.1 hx
   rcases List.mem_append.1 hy with h | h
   ·rw [(List.mem_replicate.1 h).2]; exact ⟨by decide, dec_some.1⟩
   ·rw [List.mem_singleton.1 h]; exact ⟨by decide, dec_some.2⟩
  ·obtain ⟨y, hy, rfl⟩ := List.mem_map.1 hx
   have := he2 y hy
   omega
  ·rw [hI, hf, castL_nat es, rrun_congr (aftA_eq m) (endA_eq m)]
   exact of_decide_eq_true h1
 unfold blocks_Find.f
 rw [if_pos ok, hR]
theorem alone_end (k n c : Nat) (hn : n < 30) (hc : c ≤ n) : whetstonelaw08_BlocksAlone.l0 (k + 2) ((n + 1 : Nat) : Int) (c : Int) ((n + 1 : Nat) : Int) 8192 8192 (castL (List.replicate (n + 1) 19)) 0 = some true := by
 have e1 : castL (List.replicate (n + 1) 19) ++ [1048691] = castL (wsA (n + 1)) := by simp [castL, wsA]
 have e2 : ([(8192 + (wrap64 (4 * (c : Int)))) % 4294967296] : List Int) = castL [8192 + 4 * c] := by
  show _ = [((8192 + 4 * c : Nat) : Int)]
  congr 1
  unfold wrap64
  omega
 have f1 : blocks_Find.f 8192 8192 (castL (wsA (n + 1))) 0 (castL []) = some ([(8192, n + 2)].map toB, 0) := find_A (n + 1) (by omega) [] (by simp) (by simp) _ (tell_none ⟨n, hn⟩)
 have f2 : blocks_Find.f 8192 8192 (castL (wsA (n + 1))) 0 (castL [8192 + 4 * c]) = some ((if c = 0 then [(8192, n + 2)] else [(8192, c), (8192 + 4 * c, n + 2 - c)]).map toB, 0) := find_A (n + 1) (by omega) [8192 + 4 * c] (by simp) (by simp; omega) _ (tell_one ⟨n, hn⟩ ⟨c, by omega⟩ hc)
 have w1 : wrap64 (((n + 1 : Nat) : Int) + 1) = ((n + 2 : Nat) : Int) := by unfold wrap64; omega
 have w2 : (8192 + wrap64 (4 * (c : Int))) % 4294967296 = ((8192 + 4 * c : Nat) : Int) := by unfold wrap64; omega
 have w3 : wrap64 (((n + 2 : Nat) : Int) - (c : Int)) = ((n + 2 - c : Nat) : Int) := by unfold wrap64; omega
 rw [whetstonelaw08_BlocksAlone.l0, if_neg (by omega), if_pos (by simp [castL]; omega), e1, obs, e2]
 rw [show ([] : List Int) = castL [] from rfl, f1, obs, f2, obs]
 have q1 : rd_T40 ([(8192, n + 2)].map toB) 0 = toB (8192, n + 2) := rfl
 by_cases h0 : c = 0
 ·subst h0
  simp only [if_true, List.map_cons, List.map_nil, List.length_cons, List.length_nil]
  rw [if_pos (by decide), if_pos (by decide), whetstonelaw08_BlocksAlone.j1, w1]
  rw [if_neg (by simp [rd_T40, toB])]
  rfl
 ·simp only [if_neg h0, if_true, List.map_cons, List.map_nil, List.length_cons, List.length_nil]
  rw [if_pos (by decide), if_pos (by decide), whetstonelaw08_BlocksAlone.j1, w1]
  rw [if_neg (by simp [rd_T40, toB]), if_neg (by omega)]
  simp only [List.length_cons, List.length_nil]
  rw [if_pos (by decide), if_pos (by decide), if_pos (by simp [rd_T40, toB]), if_pos (by decide), w2, w3, if_pos (by simp [rd_T40, toB])]
  rfl
theorem alone_loop (n c : Nat) (hn : n < 30) (hc : c ≤ n) : ∀ (d j k : Nat), j + d = n + 1 → whetstonelaw08_BlocksAlone.l0 (k + 2 + d) ((n + 1 : Nat) : Int) (c : Int) (j : Int) 8192 8192 (castL (List.replicate j 19)) 0 = some true
 | 0, j, k, h => by
  obtain rfl : j = n + 1 := by omega
  exact alone_end k n c hn hc
 | d + 1, j, k, h => by
  rw [show k + 2 + (d + 1) = (k + 2 + d) + 1 by omega, whetstonelaw08_BlocksAlone.l0, if_pos (by omega), if_pos (by simp [castL]; omega), show wrap64 ((j : Int) + 1) = ((j + 1 : Nat) : Int) by unfold wrap64; omega]
  rw [show castL (List.replicate j 19) ++ [19] = castL (List.replicate (j + 1) 19) by simp [castL, List.replicate_succ']]
  exact alone_loop n c hn hc d (j + 1) k (by omega)
theorem law_BlocksAlone : whetstonelaw08_BlocksAlone.Pure := by
 intro a0 a1 w0 w1
 have b0 : Go.bits .and .i64 a0 65535 = a0 % 65536 := and_i64 a0 (of_i64 w0) 16 (by omega)
 have b1 : Go.bits .and .i64 a1 65535 = a1 % 65536 := and_i64 a1 (of_i64 w1) 16 (by omega)
 obtain ⟨m0, h0⟩ := Int.eq_ofNat_of_zero_le (Int.emod_nonneg a0 (b := 65536) (by decide))
 obtain ⟨m1, h1⟩ := Int.eq_ofNat_of_zero_le (Int.emod_nonneg a1 (b := 65536) (by decide))
 refine ⟨2 + (m0 % 30 + 1), ?_⟩
 unfold whetstonelaw08_BlocksAlone.f
 rw [b0, b1, h0, h1]
 have e0 : wrap64 (1 + Int.tmod (m0 : Int) 30) = ((m0 % 30 + 1 : Nat) : Int) := by
  rw [show Int.tmod (m0 : Int) 30 = ((m0 % 30 : Nat) : Int) from rfl]
  unfold wrap64
  omega
 rw [e0, if_neg (by omega)]
 rw [show Int.tmod (m1 : Int) ((m0 % 30 + 1 : Nat) : Int) = ((m1 % (m0 % 30 + 1) : Nat) : Int) from rfl]
 have := alone_loop (m0 % 30) (m1 % (m0 % 30 + 1)) (by omega) (by have := Nat.mod_lt m1 (show 0 < m0 % 30 + 1 by omega); omega) (m0 % 30 + 1) 0 0 (by omega)
 rw [Nat.zero_add] at this
 exact this
end Go.Proofs.Ytekenddkoahjgaa.Q
namespace Go.Proofs.Ytekenddkoahjgaa.Pure
open Go.RowKit Go.Proofs.Ytekenddkoahjgaa.Q
theorem BlocksAlone : whetstonelaw08_BlocksAlone.Pure := law_BlocksAlone
end Go.Proofs.Ytekenddkoahjgaa.Pure
