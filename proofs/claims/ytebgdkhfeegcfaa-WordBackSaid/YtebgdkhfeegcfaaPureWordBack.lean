/- The statement WordBack over numbers alone, out of what the printed functions come to (no condition). -/
import Derived.Test.YtebgdkhfeegcfaaQx1
import Derived.Test.YtebgdkhfeegcfaaQx14
import Derived.Test.YtebgdkhfeegcfaaQx2
import Derived.Test.YtebgdkhfeegcfaaQx5
import Derived.Test.YtebgdkhfeegcfaaTA
namespace Go.Proofs.Ytebgdkhfeegcfaa.Q
open Go.RowKit Go.Proofs.YtebgdkhfeegcfaaW.PrintWords Go.Proofs.YtebgdkhfeegcfaaW.PrintLast Go.Proofs.YtebgdkhfeegcfaaW.PrintMore
set_option linter.unusedVariables false
set_option linter.unusedSimpArgs false
theorem back_j1 (w : Nat) (hw : w < 4294967296) (hf : whetstonelaw01_fixed.f 198 = some true) : whetstonelaw01_WordBack.j1 199 (w : Int) false = some true := by
  have e := fld0 w 32 hw (by omega) (by omega) 198 (by omega)
  rw [Nat.mod_eq_of_lt (show w < 2 ^ 32 from hw)] at e
  have e : word_Field.f 198 (w : Int) 0 32 = some (w : Int) := e
  simp only [whetstonelaw01_WordBack.j1]
  rw [if_neg (by decide), e, obs, if_pos rfl, hf, obs]
theorem back_j0 (w v n : Nat) (hw : w < 4294967296) (hv : v < 4294967296) (hn1 : 1 ≤ n) (hn2 : n ≤ 32) (hf : whetstonelaw01_fixed.f 198 = some true) : whetstonelaw01_WordBack.j0 200 (w : Int) (v : Int) (n : Int) false = some true := by
  have l3 : v % 2 ^ n < 4294967296 := mod_lt32 _ _ hn2
  have hj := back_j1 w hw hf
  simp only [whetstonelaw01_WordBack.j0]
  rw [if_neg (by decide)]
  by_cases h32 : (n : Int) < 32
  · obtain ⟨s1, s2⟩ := sgn_mod v n (by omega) hn1
    rw [if_pos h32, Sign_eq v hv _ _ (by omega), obs, fld0 v n hv hn1 hn2 _ (by omega), obs, Sign_eq _ l3 _ _ (by omega), obs, s1, if_pos rfl, fld0 _ n (sgn_lt v hv _) hn1 hn2 _ (by omega), obs, s2]
    rw [show ((((v % 2 ^ n : Nat) : Int)) != ((v % 2 ^ n : Nat) : Int)) = false from by simp]
    exact hj
  · rw [if_neg h32]
    exact hj
theorem back_f (w v p n : Nat) (hw : w < 4294967296) (hv : v < 4294967296) (hp32 : p < 32) (hn1 : 1 ≤ n) (hn2 : n ≤ 32 - p) (hf : whetstonelaw01_fixed.f 198 = some true) :
    (word_Put.f 200 (w : Int) (p : Int) (n : Int) (v : Int)).bind (fun t197 => (word_Field.f 200 t197 (p : Int) (n : Int)).bind fun t198 => (word_Field.f 200 (v : Int) 0 (n : Int)).bind fun t199 =>
      if t198 = t199 then (word_Field.f 200 (w : Int) (p : Int) (n : Int)).bind fun t200 => (word_Put.f 200 t197 (p : Int) (n : Int) t200).bind fun t201 => whetstonelaw01_WordBack.j0 200 (w : Int) (v : Int) (n : Int) (t201 != (w : Int))
      else whetstonelaw01_WordBack.j0 200 (w : Int) (v : Int) (n : Int) true) = some true := by
  have l1 := put_lt w v hw (p : Int) (n : Int)
  have l2 : w / 2 ^ p % 2 ^ n < 4294967296 := mod_lt32 _ _ (by omega)
  have hj := back_j0 w v n hw hv hn1 (by omega) hf
  rw [Put_eq w v hw hv _ _ _ (by omega), obs, Field_may _ p n l1 hp32 hn1 hn2 _ (by omega), obs, put_whole w v hw p n hp32 hn1 hn2, fld0 v n hv hn1 (by omega) _ (by omega), obs, if_pos rfl,
    Field_may _ p n hw hp32 hn1 hn2 _ (by omega), obs, Put_eq _ _ l1 l2 _ _ _ (by omega), obs, put_back w v hw p n hp32 hn1 hn2]
  rw [show ((w : Int) != (w : Int)) = false from by simp]
  exact hj
theorem law_WordBack (hf : whetstonelaw01_fixed.f 198 = some true) (w v at_ num other : Int) (h1 : (Lit.int .u32 w).wf = true) (h2 : (Lit.int .u32 v).wf = true) (h3 : (Lit.int .i64 at_).wf = true) (h4 : (Lit.int .i64 num).wf = true) :
    whetstonelaw01_WordBack.f 200 w v at_ num other = some true := by
  obtain ⟨w, rfl, hw⟩ := of_u32 h1
  obtain ⟨v, rfl, hv⟩ := of_u32 h2
  obtain ⟨p, hp, hp2⟩ := i64_nat at_ h3 5 (by decide)
  obtain ⟨c, hc, _⟩ := i64_nat num h4 16 (by decide)
  have hp : Go.bits .and .i64 at_ 31 = (p : Int) := hp
  have hc : Go.bits .and .i64 num 65535 = (c : Int) := hc
  obtain ⟨w1, w2, hlt⟩ := back_n p c hp2
  have hz : ¬ ((32 - p : Nat) : Int) = 0 := by clear hp hc w1 w2; omega
  unfold whetstonelaw01_WordBack.f
  rw [hp, hc, w1, w2, if_neg hz]
  clear hp hc w1 w2
  exact back_f w v p (1 + c % (32 - p)) hw hv hp2 (by omega) (by omega) hf
theorem walk_WordBack (a0 a1 p n v : Int) (w : World) (w0 : (Lit.int .u32 a0).wf = true) (w1 : (Lit.int .u32 a1).wf = true) (w2 : (Lit.int .i64 p).wf = true) (w3 : (Lit.int .i64 n).wf = true) (_w4 : (Lit.int .u32 v).wf = true) :
    Calls Try.prog 5 #[.int .u32 a0, .int .u32 a1, .agg #[.int .i64 p, .int .i64 n, .int .u32 v]] w fun e w' => e = .returned (.bool true) ∧ Below w.heap.size w w' :=
  whetstonelaw01_WordBack.calls 200 a0 a1 p n v true w (law_WordBack (fixed_ok _ (by decide)) a0 a1 p n v w0 w1 w2 w3)
end Go.Proofs.Ytebgdkhfeegcfaa.Q
