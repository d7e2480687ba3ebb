/- Layer 2, plain: TR -/
import Derived.Test.YtegpiempnjbfjaaQx10
import Derived.Test.YtegpiempnjbfjaaQx11
import Derived.Test.YtegpiempnjbfjaaQx13
import Derived.Test.YtegpiempnjbfjaaQx14
import Derived.Test.YtegpiempnjbfjaaQx15
import Derived.Test.YtegpiempnjbfjaaQx18
import Derived.Test.YtegpiempnjbfjaaQx2
import Derived.Test.YtegpiempnjbfjaaQx7
import Derived.Test.YtegpiempnjbfjaaQx9
import Derived.Test.YtegpiempnjbfjaaTZ
namespace Go.Proofs.Ytegpiempnjbfjaa.Q
open Go.RowKit Go.Proofs.YtegpiempnjbfjaaW.PrintWords Go.Proofs.YtegpiempnjbfjaaW.PrintLast Go.Proofs.YtegpiempnjbfjaaW.PrintMore
set_option linter.unusedVariables false
set_option linter.unusedSimpArgs false
/-! ## the reference: the loop over places -/
def sumP : List Int → Nat → Nat → Nat
  | [], _, _ => 0
  | p :: ps, i, m => (if 0 ≤ p then m / 2 ^ i % 2 * 2 ^ p.toNat else 0) + sumP ps (i + 1) m
def okP : Nat → List Int → Bool
  | _, [] => true
  | M, p :: ps => if 0 ≤ p then decide (p < 32) && (M &&& 2 ^ p.toNat == 0) && okP (M ||| 2 ^ p.toNat) ps else okP M ps
theorem wrap_succ (i : Nat) (h : i < 1000) : wrap64 ((i : Int) + 1) = ((i + 1 : Nat) : Int) := by rw [wrap64_lit _ (by omega) (by omega)]; omega
theorem or_none {x M q : Nat} (hx : x &&& M = x) (hM : M &&& q = 0) : x &&& (M ||| q) = x := by
  rw [Nat.and_or_distrib_left, hx]
  have : x &&& q = 0 := by rw [← hx, Nat.and_assoc, hM, Nat.and_zero]
  rw [this, Nat.or_zero]
theorem bit_one {x y s : Nat} : ((x + (1 * y) + s : Nat) : Int) = ((x + (1 * y + s) : Nat) : Int) := by rw [Nat.add_assoc]
theorem Bit_at (m : Int) (m' : Nat) (em : m % 4294967296 = (m' : Int)) (lm : m' < 4294967296) (i : Nat) (hi : i < 32) : whetstoneref01_Bit.f (m % 4294967296) (i : Int) = some ((m' / 2 ^ i % 2 : Nat) : Int) := by
  rw [em, Bit_eq m' lm, if_pos ⟨Int.natCast_nonneg i, by omega⟩, Int.toNat_natCast]
theorem drop_head {P : List Int} {i : Nat} {p : Int} {ps : List Int} (h : P.drop i = p :: ps) : i < P.length ∧ rd P (i : Int) = p ∧ P.drop (i + 1) = ps := by
  have hl : i < P.length := by
    have := congrArg List.length h
    simp at this
    omega
  refine ⟨hl, ?_, by rw [← List.tail_drop, h]; rfl⟩
  unfold rd
  have := congrArg (fun l => l.head?) h
  simp [List.head?_drop] at this
  simp [this]
theorem drop_nil {P : List Int} {i : Nat} (h : P.drop i = []) : P.length ≤ i := by
  have := congrArg List.length h
  simp at this
  omega
theorem rEnc_end (P : List Int) (m : Int) (a0 a1 a2 a3 : Int) (x : Int) (i k : Nat) (h : P.length ≤ i) : whetstoneref02_Encode.l0 (k + 1) x P (i : Int) a0 a1 a2 a3 m = some (x, 0) := by
  simp only [whetstoneref02_Encode.l0]
  rw [if_neg (by omega)]
theorem rEnc_step (P : List Int) (m : Int) (a0 a1 a2 a3 : Int) (m' : Nat) (em : m % 4294967296 = (m' : Int)) (lm : m' < 4294967296) (hP : P.length ≤ 31) (x : Nat) (i k : Nat) (h : i < P.length) (p : Int) (hrd : rd P (i : Int) = p) :
    whetstoneref02_Encode.l0 (k + 1) (x : Int) P (i : Int) a0 a1 a2 a3 m = if 0 ≤ p then (if ((m' / 2 ^ i % 2 : Nat) : Int) = 1 then (if 0 ≤ p then whetstoneref02_Encode.l0 k (Go.bits .or .u32 (x : Int) (shl .u32 1 p)) P ((i + 1 : Nat) : Int) a0 a1 a2 a3 m else none) else whetstoneref02_Encode.l0 k (x : Int) P ((i + 1 : Nat) : Int) a0 a1 a2 a3 m) else whetstoneref02_Encode.l0 k (x : Int) P ((i + 1 : Nat) : Int) a0 a1 a2 a3 m := by
  simp only [whetstoneref02_Encode.l0]
  rw [if_pos (Int.ofNat_lt.mpr h), if_pos (Int.natCast_nonneg i), hrd, wrap_succ i (by omega), Bit_at m m' em lm i (by omega), obs]
theorem rEnc_loop (P : List Int) (m : Int) (m' : Nat) (em : m % 4294967296 = (m' : Int)) (lm : m' < 4294967296) (hP : P.length ≤ 31) (a0 a1 a2 a3 : Int) :
    ∀ (ps : List Int) (i k M x : Nat), P.drop i = ps → ps.length < k → x &&& M = x → x < 4294967296 → okP M ps = true →
      whetstoneref02_Encode.l0 k (x : Int) P (i : Int) a0 a1 a2 a3 m = some (((x + sumP ps i m' : Nat) : Int), 0) := by
  intro ps
  induction ps with
  | nil =>
    intro i k M x hd hk hx lx _
    obtain ⟨k, rfl⟩ : ∃ q, k = q + 1 := ⟨k - 1, by simp at hk; omega⟩
    rw [rEnc_end P m a0 a1 a2 a3 _ i k (drop_nil hd)]
    rfl
  | cons p ps ih =>
    intro i k M x hd hk hx lx hok
    simp only [List.length_cons] at hk
    obtain ⟨k, rfl⟩ : ∃ q, k = q + 1 := ⟨k - 1, by omega⟩
    obtain ⟨hlt, hrd, hnext⟩ := drop_head hd
    rw [rEnc_step P m a0 a1 a2 a3 m' em lm hP x i k hlt p hrd]
    have hk' : ps.length < k := Nat.lt_of_succ_lt_succ hk
    unfold okP at hok
    simp only [sumP]
    by_cases hp : 0 ≤ p
    · rw [if_pos hp] at hok
      simp only [Bool.and_eq_true, decide_eq_true_eq, beq_iff_eq] at hok
      obtain ⟨⟨h32, hM⟩, hok⟩ := hok
      obtain ⟨q, rfl⟩ := Int.eq_ofNat_of_zero_le hp
      rw [Int.toNat_natCast] at hM hok ⊢
      have hq : q < 32 := Int.ofNat_lt.mp h32
      rw [if_pos hp, if_pos hp, if_pos hp]
      rcases Nat.mod_two_eq_zero_or_one (m' / 2 ^ i) with hb | hb
      · rw [hb, if_neg (by decide), ih (i + 1) k (M ||| 2 ^ q) x hnext hk' (or_none hx hM) lx hok, Nat.zero_mul, Nat.zero_add]
      · have hs : shl .u32 1 (q : Int) = ((1 * 2 ^ q : Nat) : Int) := shl_small 1 q 1 (by decide) (by omega)
        have lq := piece_lt 1 q 1 (by decide) (by omega)
        rw [Nat.one_mul] at hs lq
        obtain ⟨e, e2, e3⟩ := or_sum M (2 ^ q) hx (Nat.and_self _) hM lx lq
        rw [hb, if_pos (show ((1 : Nat) : Int) = 1 from rfl), hs, u32_or_nat _ _ lx lq, e, ih (i + 1) k (M ||| 2 ^ q) (x + 2 ^ q) hnext hk' e2 e3 hok, Nat.one_mul, Nat.add_assoc]
    · rw [if_neg hp] at hok
      rw [if_neg hp, if_neg hp, ih (i + 1) k M x hnext hk' hx lx hok, Nat.zero_add]
theorem sumT_row (x n : Nat) : x % 2 ^ (n + 1) = x % 2 ^ n + x / 2 ^ n % 2 * 2 ^ n := by
  rw [Nat.pow_succ, Nat.mod_mul, Nat.mul_comm (x / 2 ^ n % 2)]
/-- Bits in a row. -/
def bsum (x : Nat) : Nat → Nat
  | 0 => 0
  | n + 1 => bsum x n + x / 2 ^ n % 2 * 2 ^ n
theorem bsum_eq (x n : Nat) : bsum x n = x % 2 ^ n := by
  induction n with
  | zero => simp [bsum, Nat.mod_one]
  | succ n ih => rw [bsum, ih, ← sumT_row]
def plU : List Int := [12, 13, 14, 15, 16, 17, 18, 19, 20, 21, 22, 23, 24, 25, 26, 27, 28, 29, 30, 31]
def plJ : List Int := [-1, 21, 22, 23, 24, 25, 26, 27, 28, 29, 30, 20, 12, 13, 14, 15, 16, 17, 18, 19, 31]
def plI : List Int := [20, 21, 22, 23, 24, 25, 26, 27, 28, 29, 30, 31]
def plS : List Int := [7, 8, 9, 10, 11, 25, 26, 27, 28, 29, 30, 31]
def plB : List Int := [-1, 8, 9, 10, 11, 25, 26, 27, 28, 29, 30, 7, 31]
def plH : List Int := [20, 21, 22, 23, 24]
def plc (f : Int) : List Int := if f = 85 then plU else if f = 74 then plJ else if f = 73 then plI else if f = 83 then plS else if f = 66 then plB else if f = 72 then plH else []
theorem places_eq (f : Int) : whetstoneref02_places.f f = some (plc f) := by
  unfold whetstoneref02_places.f plc
  repeat' (first | rfl | split)
/-- Bits in a row that stand in a row: from place s on, of the number's bits from a on. -/
theorem sumP_run (s : Nat) (m : Nat) : ∀ (n a : Nat) (rest : List Int), sumP ((List.range n).map (fun j => ((s + j : Nat) : Int)) ++ rest) a m = m / 2 ^ a % 2 ^ n * 2 ^ s + sumP rest (a + n) m := by
  intro n
  induction n with
  | zero => intro a rest; simp [Nat.mod_one]
  | succ n ih =>
    intro a rest
    rw [List.range_succ, List.map_append, List.append_assoc, ih]
    simp only [List.map_cons, List.map_nil, List.cons_append, List.nil_append, sumP]
    rw [if_pos (by omega), Int.toNat_natCast, sumT_row, Nat.add_mul, Nat.div_div_eq_div_mul, ← Nat.pow_add, Nat.pow_add 2 s n, Nat.mul_assoc (m / 2 ^ (a + n) % 2), Nat.mul_comm (2 ^ n) (2 ^ s), show a + n + 1 = a + (n + 1) by omega]
    omega
theorem sumP_skip (m a : Nat) (rest : List Int) : sumP (-1 :: rest) a m = sumP rest (a + 1) m := by
  simp only [sumP]
  rw [if_neg (by decide), Nat.zero_add]
theorem sumP_at (ps : List Int) (s m n a : Nat) (rest : List Int) (h : ps = (List.range n).map (fun j => ((s + j : Nat) : Int)) ++ rest) (A N S : Nat) (hA : 2 ^ a = A) (hN : 2 ^ n = N) (hS : 2 ^ s = S) (b : Nat) (hb : a + n = b) : sumP ps a m = m / A % N * S + sumP rest b m := by
  subst hA hN hS hb
  rw [h, sumP_run]
theorem sumP_U (m : Nat) : sumP plU 0 m = m % 1048576 * 4096 := by
  rw [sumP_at plU 12 m 20 0 [] (by decide) 1 1048576 4096 (by decide) (by decide) (by decide) 20 rfl, Nat.div_one]; exact Nat.add_zero _
theorem sumP_J (m : Nat) : sumP plJ 0 m = m / 2 % 1024 * 2097152 + (m / 2048 % 2 * 1048576 + (m / 4096 % 256 * 4096 + (m / 1048576 % 2 * 2147483648 + 0))) := by
  rw [show plJ = -1 :: [21, 22, 23, 24, 25, 26, 27, 28, 29, 30, 20, 12, 13, 14, 15, 16, 17, 18, 19, 31] from rfl, sumP_skip,
    sumP_at _ 21 m 10 1 [20, 12, 13, 14, 15, 16, 17, 18, 19, 31] (by decide) 2 1024 2097152 (by decide) (by decide) (by decide) 11 rfl,
    sumP_at _ 20 m 1 11 [12, 13, 14, 15, 16, 17, 18, 19, 31] (by decide) 2048 2 1048576 (by decide) (by decide) (by decide) 12 rfl,
    sumP_at _ 12 m 8 12 [31] (by decide) 4096 256 4096 (by decide) (by decide) (by decide) 20 rfl,
    sumP_at _ 31 m 1 20 [] (by decide) 1048576 2 2147483648 (by decide) (by decide) (by decide) 21 rfl]
  rfl
theorem sumP_I (m : Nat) : sumP plI 0 m = m % 4096 * 1048576 := by
  rw [sumP_at plI 20 m 12 0 [] (by decide) 1 4096 1048576 (by decide) (by decide) (by decide) 12 rfl, Nat.div_one]; exact Nat.add_zero _
theorem sumP_H (m : Nat) : sumP plH 0 m = m % 32 * 1048576 := by
  rw [sumP_at plH 20 m 5 0 [] (by decide) 1 32 1048576 (by decide) (by decide) (by decide) 5 rfl, Nat.div_one]; exact Nat.add_zero _
theorem sumP_S (m : Nat) : sumP plS 0 m = m % 32 * 128 + (m / 32 % 128 * 33554432 + 0) := by
  rw [sumP_at plS 7 m 5 0 [25, 26, 27, 28, 29, 30, 31] (by decide) 1 32 128 (by decide) (by decide) (by decide) 5 rfl, Nat.div_one,
    sumP_at _ 25 m 7 5 [] (by decide) 32 128 33554432 (by decide) (by decide) (by decide) 12 rfl]
  rfl
theorem sumP_B (m : Nat) : sumP plB 0 m = m / 2 % 16 * 256 + (m / 32 % 64 * 33554432 + (m / 2048 % 2 * 128 + (m / 4096 % 2 * 2147483648 + 0))) := by
  rw [show plB = -1 :: [8, 9, 10, 11, 25, 26, 27, 28, 29, 30, 7, 31] from rfl, sumP_skip,
    sumP_at _ 8 m 4 1 [25, 26, 27, 28, 29, 30, 7, 31] (by decide) 2 16 256 (by decide) (by decide) (by decide) 5 rfl,
    sumP_at _ 25 m 6 5 [7, 31] (by decide) 32 64 33554432 (by decide) (by decide) (by decide) 11 rfl,
    sumP_at _ 7 m 1 11 [31] (by decide) 2048 2 128 (by decide) (by decide) (by decide) 12 rfl,
    sumP_at _ 31 m 1 12 [] (by decide) 4096 2 2147483648 (by decide) (by decide) (by decide) 13 rfl]
  rfl
theorem sumP_told (f : Int) (m : Nat) (h72 : f = 72 → m < 32) : sumP (plc f) 0 m = toldv f m := by
  unfold plc toldv
  by_cases h1 : f = 85
  · rw [if_pos h1, if_pos h1]; exact sumP_U m
  rw [if_neg h1, if_neg h1]
  by_cases h2 : f = 74
  · rw [if_pos h2, if_pos h2, sumP_J]; omega
  rw [if_neg h2, if_neg h2]
  by_cases h3 : f = 73
  · rw [if_pos h3, if_pos (Or.inl h3)]; exact sumP_I m
  rw [if_neg h3]
  by_cases h4 : f = 83
  · rw [if_pos h4, if_neg (by omega), if_pos h4, sumP_S]; omega
  rw [if_neg h4]
  by_cases h5 : f = 66
  · rw [if_pos h5, if_neg (by omega), if_neg h4, if_pos h5, sumP_B]; omega
  rw [if_neg h5]
  by_cases h6 : f = 72
  · have := h72 h6
    rw [if_pos h6, if_pos (Or.inr h6), sumP_H, Nat.mod_eq_of_lt this, Nat.mod_eq_of_lt (by omega)]
  rw [if_neg h6, if_neg (by omega), if_neg h4, if_neg h5]
  rfl
/-! ## the reference: Encode -/
theorem rows_lists : ∀ n : Fin 47, whetstoneref02_ops.f.bind (fun l => if (n.val : Int) < (l.length : Int) then some (rd l (n.val : Int)) else none) = some (kGet n.val).2.1 ∧
    whetstoneref02_f3.f.bind (fun l => if (n.val : Int) < (l.length : Int) then some (rd l (n.val : Int)) else none) = some (kGet n.val).2.2.1 ∧
    whetstoneref02_f7.f.bind (fun l => if (n.val : Int) < (l.length : Int) then some (rd l (n.val : Int)) else none) = some (kGet n.val).2.2.2 := by decide +kernel
theorem row_of_list {F : Option (List Int)} {n : Nat} {x : Int} (h : F.bind (fun l => if (n : Int) < (l.length : Int) then some (rd l (n : Int)) else none) = some x) : ∃ l, F = some l ∧ (n : Int) < (l.length : Int) ∧ rd l (n : Int) = x := by
  obtain ⟨l, h1, h2⟩ := Option.bind_eq_some_iff.mp h
  by_cases c : (n : Int) < (l.length : Int)
  · rw [if_pos c] at h2
    exact ⟨l, h1, c, Option.some.inj h2⟩
  · rw [if_neg c] at h2
    cases h2
/-- What stands in a word ahead of its number. -/
def enc0 (b c d rd r1 r2 : Nat) : Nat := b + c * 4096 + d * 33554432 + rd * 128 + r1 * 32768 + r2 * 1048576
theorem chain6 {x1 x2 x3 x4 x5 x6 : Nat} (m1 m2 m3 m4 m5 m6 : Nat) (h1 : x1 &&& m1 = x1) (h2 : x2 &&& m2 = x2) (h3 : x3 &&& m3 = x3) (h4 : x4 &&& m4 = x4) (h5 : x5 &&& m5 = x5) (h6 : x6 &&& m6 = x6)
    (l1 : x1 < 4294967296) (l2 : x2 < 4294967296) (l3 : x3 < 4294967296) (l4 : x4 < 4294967296) (l5 : x5 < 4294967296) (l6 : x6 < 4294967296)
    (d : m1 &&& m2 = 0 ∧ (m1 ||| m2) &&& m3 = 0 ∧ ((m1 ||| m2) ||| m3) &&& m4 = 0 ∧ (((m1 ||| m2) ||| m3) ||| m4) &&& m5 = 0 ∧ ((((m1 ||| m2) ||| m3) ||| m4) ||| m5) &&& m6 = 0) (M : Nat) (hM : ((((m1 ||| m2) ||| m3) ||| m4) ||| m5) ||| m6 = M) :
    (x1 + x2 + x3 + x4 + x5 + x6) &&& M = x1 + x2 + x3 + x4 + x5 + x6 ∧ x1 + x2 + x3 + x4 + x5 + x6 < 4294967296 := by
  subst hM
  obtain ⟨d2, d3, d4, d5, d6⟩ := d
  obtain ⟨e2, q2, r2⟩ := or_sum _ _ h1 h2 d2 l1 l2
  obtain ⟨e3, q3, r3⟩ := or_sum _ _ q2 h3 d3 r2 l3
  obtain ⟨e4, q4, r4⟩ := or_sum _ _ q3 h4 d4 r3 l4
  obtain ⟨e5, q5, r5⟩ := or_sum _ _ q4 h5 d5 r4 l5
  obtain ⟨e6, q6, r6⟩ := or_sum _ _ q5 h6 d6 r5 l6
  exact ⟨q6, r6⟩
theorem enc0_mask {n : Nat} {a : Int} {b c d : Nat} (R : Row n a b c d) (rd r1 r2 : Nat) (hrd : rd < 32) (hr1 : r1 < 32) (hr2 : r2 < 32)
    (zd : hRd a = false → rd = 0) (z1 : hR1 a = false → r1 = 0) (z2 : hR2 a = false → r2 = 0) :
    ∃ M, enc0 b c d rd r1 r2 &&& M = enc0 b c d rd r1 r2 ∧ enc0 b c d rd r1 r2 < 4294967296 ∧ okP M (plc a) = true := by
  have hb := R.hb
  have pb : b &&& 127 = b := by rw [show 127 = 2 ^ 7 - 1 from rfl, Nat.and_two_pow_sub_one_eq_mod]; exact Nat.mod_eq_of_lt hb
  have pc : c * 4096 &&& 28672 = c * 4096 := piece' c 12 3 28672 (by decide +kernel) R.hc
  have pd : d * 33554432 &&& 4261412864 = d * 33554432 := piece' d 25 7 4261412864 (by decide +kernel) R.hd
  have p1 : r1 * 32768 &&& 1015808 = r1 * 32768 := piece' r1 15 5 1015808 (by decide +kernel) hr1
  have prd : rd * 128 &&& 3968 = rd * 128 := piece' rd 7 5 3968 (by decide +kernel) hrd
  have p2 : r2 * 1048576 &&& 32505856 = r2 * 1048576 := piece' r2 20 5 32505856 (by decide +kernel) hr2
  have up := R.up
  have mid := R.mid
  have B1 : b < 4294967296 := by omega
  have B2 : c * 4096 < 4294967296 := piece_lt c 12 3 R.hc (by decide)
  have B3 : d * 33554432 < 4294967296 := piece_lt d 25 7 R.hd (by decide)
  have B4 : r1 * 32768 < 4294967296 := piece_lt r1 15 5 hr1 (by decide)
  have B6 : rd * 128 < 4294967296 := piece_lt rd 7 5 hrd (by decide)
  have B7 : r2 * 1048576 < 4294967296 := piece_lt r2 20 5 hr2 (by decide)
  unfold enc0
  rcases R.form with rfl | rfl | rfl | rfl | rfl | rfl | rfl
  · obtain ⟨rfl, rfl⟩ := up (Or.inl rfl)
    obtain rfl := z1 rfl
    obtain rfl := z2 rfl
    obtain ⟨q, l⟩ := chain6 127 0 0 3968 0 0 pb (zk _) (zk _) prd (zk _) (zk _) B1 B2 B3 B6 B4 B7 (by decide +kernel) 4095 (by decide +kernel)
    exact ⟨_, q, l, by decide +kernel⟩
  · obtain ⟨rfl, rfl⟩ := up (Or.inr rfl)
    obtain rfl := z1 rfl
    obtain rfl := z2 rfl
    obtain ⟨q, l⟩ := chain6 127 0 0 3968 0 0 pb (zk _) (zk _) prd (zk _) (zk _) B1 B2 B3 B6 B4 B7 (by decide +kernel) 4095 (by decide +kernel)
    exact ⟨_, q, l, by decide +kernel⟩
  · obtain rfl := mid (Or.inl rfl)
    obtain rfl := z2 rfl
    obtain ⟨q, l⟩ := chain6 127 28672 0 3968 1015808 0 pb pc (zk _) prd p1 (zk _) B1 B2 B3 B6 B4 B7 (by decide +kernel) 1048575 (by decide +kernel)
    exact ⟨_, q, l, by decide +kernel⟩
  · obtain rfl := mid (Or.inr (Or.inr rfl))
    obtain rfl := zd rfl
    obtain ⟨q, l⟩ := chain6 127 28672 0 0 1015808 32505856 pb pc (zk _) (zk _) p1 p2 B1 B2 B3 B6 B4 B7 (by decide +kernel) _ rfl
    exact ⟨_, q, l, by decide +kernel⟩
  · obtain rfl := mid (Or.inr (Or.inl rfl))
    obtain rfl := zd rfl
    obtain ⟨q, l⟩ := chain6 127 28672 0 0 1015808 32505856 pb pc (zk _) (zk _) p1 p2 B1 B2 B3 B6 B4 B7 (by decide +kernel) _ rfl
    exact ⟨_, q, l, by decide +kernel⟩
  · obtain rfl := z2 rfl
    obtain ⟨q, l⟩ := chain6 127 28672 4261412864 3968 1015808 0 pb pc pd prd p1 (zk _) B1 B2 B3 B6 B4 B7 (by decide +kernel) _ rfl
    exact ⟨_, q, l, by decide +kernel⟩
  · obtain ⟨q, l⟩ := chain6 127 28672 4261412864 3968 1015808 32505856 pb pc pd prd p1 p2 B1 B2 B3 B6 B4 B7 (by decide +kernel) _ rfl
    exact ⟨_, q, l, rfl⟩
theorem enc0_w (b c d rd r1 r2 : Nat) (a1 a2 a3 : Int) (h1 : a1 = (rd : Int)) (h2 : a2 = (r1 : Int)) (h3 : a3 = (r2 : Int)) (l1 : rd < 32) (l2 : r1 < 32) (l3 : r2 < 32) (l : enc0 b c d rd r1 r2 < 4294967296) :
    ((((((b : Int) + (c : Int) * 4096) + (d : Int) * 33554432) + ((a1 % 4294967296) * 128)) + ((a2 % 4294967296) * 32768)) + ((a3 % 4294967296) * 1048576)) % 4294967296 = ((enc0 b c d rd r1 r2 : Nat) : Int) := by
  subst h1 h2 h3
  rw [Int.emod_eq_of_lt (a := (rd : Int)) (by omega) (by omega), Int.emod_eq_of_lt (a := (r1 : Int)) (by omega) (by omega), Int.emod_eq_of_lt (a := (r2 : Int)) (by omega) (by omega)]
  unfold enc0 at l ⊢
  omega
theorem rEncode_some {n : Nat} {a : Int} {b c d : Nat} (R : Row n a b c d) (hn : n < 45) (rd r1 r2 : Nat) (m : Int) (hrd : rd < 32) (hr1 : r1 < 32) (hr2 : r2 < 32)
    (zd : hRd a = false → rd = 0) (z1 : hR1 a = false → r1 = 0) (z2 : hR2 a = false → r2 = 0) (hm : numb a m = true) :
    whetstoneref02_Encode.f 200 (n : Int) (rd : Int) (r1 : Int) (r2 : Int) m = some (((encw a b c d rd r1 r2 (m % 4294967296).toNat : Nat) : Int), 0) := by
  have hr : rightv (n : Int) (rd : Int) (r1 : Int) (r2 : Int) m = true := by
    rw [right_row R hn, regv_of _ _ hrd zd, regv_of _ _ hr1 z1, regv_of _ _ hr2 z2, hm]; rfl
  have h72 : a = 72 → (m % 4294967296).toNat < 32 := fun e => by rw [e] at hm; exact numb_72 m hm
  obtain ⟨em, lm⟩ := em_of m
  generalize (m % 4294967296).toNat = m' at em lm h72 ⊢
  obtain ⟨M, q1, q2, q3⟩ := enc0_mask R rd r1 r2 hrd hr1 hr2 zd z1 z2
  obtain ⟨g1, g2, g3⟩ := rows_lists ⟨n, by omega⟩
  have hget := R.get
  simp only at g1 g2 g3
  rw [hget] at g1 g2 g3
  obtain ⟨l1, f1, k1, v1⟩ := row_of_list g1
  obtain ⟨l2, f2, k2, v2⟩ := row_of_list g2
  obtain ⟨l3, f3, k3, v3⟩ := row_of_list g3
  unfold whetstoneref02_Encode.f
  rw [rRight_eq, hr, obs, if_pos rfl, if_neg (show ¬ (n : Int) = 45 by omega), if_neg (show ¬ (n : Int) = 46 by omega), f1, obs, if_pos (Int.natCast_nonneg n), if_pos k1, f2, obs, if_pos k2, f3, obs, if_pos k3, rForm_eq, obs, frm_row R hn, places_eq, obs, v1, v2, v3]
  simp only
  rw [enc0_w b c d rd r1 r2 _ _ _ rfl rfl rfl hrd hr1 hr2 q2]
  have hp : (plc a).length ≤ 31 := by rcases R.form with rfl | rfl | rfl | rfl | rfl | rfl | rfl <;> decide
  have := rEnc_loop (plc a) m m' em lm hp (n : Int) (rd : Int) (r1 : Int) (r2 : Int) (plc a) 0 200 M (enc0 b c d rd r1 r2) rfl (by omega) q1 q2 q3
  rw [show ((0 : Nat) : Int) = 0 from rfl] at this
  rw [this, sumP_told a m' h72]
  congr 3
  unfold enc0 encw
  generalize toldv a m' = t
  omega
theorem rEncode_not (a0 a1 a2 a3 a4 : Int) (h : rightv a0 a1 a2 a3 a4 = false) : whetstoneref02_Encode.f 200 a0 a1 a2 a3 a4 = some (0, 20) := by
  unfold whetstoneref02_Encode.f
  rw [rRight_eq, h, obs, if_neg (by decide)]
theorem rEncode_e (op : Int) (h : op = 45 ∨ op = 46) : whetstoneref02_Encode.f 200 op 0 0 0 0 = some ((if op = 45 then 115 else 1048691), 0) := by
  unfold whetstoneref02_Encode.f
  rw [rRight_eq, (right_e op h 0 0 0 0).mpr ⟨rfl, rfl, rfl, rfl⟩, obs, if_pos rfl]
  rcases h with rfl | rfl <;> rfl
/-- Encode and the reference's are one. -/
theorem rEncode_eq (a0 a1 a2 a3 a4 : Int) : whetstoneref02_Encode.f 200 a0 a1 a2 a3 a4 = inst_Encode.f 200 a0 a1 a2 a3 a4 := by
  cases hr : rightv a0 a1 a2 a3 a4 with
  | false => rw [rEncode_not _ _ _ _ _ hr, Encode_not _ _ _ _ _ hr 200 (by omega)]
  | true =>
    have hin : 0 ≤ a0 ∧ a0 < 47 := by
      apply Classical.byContradiction
      intro h
      rw [right_out a0 a1 a2 a3 a4 h] at hr
      cases hr
    by_cases h45 : a0 < 45
    · obtain ⟨n, rfl⟩ := Int.eq_ofNat_of_zero_le hin.1
      have hn : n < 45 := by omega
      obtain ⟨a, b, c, d, R⟩ := row_at n hn
      rw [right_row R hn] at hr
      simp only [Bool.and_eq_true] at hr
      obtain ⟨e1, e2, e3, e4⟩ := hr
      obtain ⟨rd, rfl, hrd, zd⟩ := regv_nat _ _ e1
      obtain ⟨r1, rfl, hr1, z1⟩ := regv_nat _ _ e2
      obtain ⟨r2, rfl, hr2, z2⟩ := regv_nat _ _ e3
      rw [rEncode_some R hn rd r1 r2 a4 hrd hr1 hr2 zd z1 z2 e4, Encode_some R hn rd r1 r2 a4 hrd hr1 hr2 zd z1 z2 e4 200 (by omega)]
    · have h46 : a0 = 45 ∨ a0 = 46 := by omega
      obtain ⟨rfl, rfl, rfl, rfl⟩ := (right_e a0 h46 a1 a2 a3 a4).mp hr
      rw [rEncode_e a0 h46, Encode_e a0 h46 200 (by omega)]
/-! ## the reference: try -/
def topF (f : Int) : Bool := decide (f = 74 ∨ f = 73 ∨ f = 83 ∨ f = 66)
theorem rin_10 : ∀ f ∈ [0, 85, 74, 73, 66, 83, 72, 82, 69], whetstoneref02_in.f 10 f (⟨#[85, 74, 73, 72, 82]⟩ : ByteArray) = some (hRd f) ∧ whetstoneref02_in.f 10 f (⟨#[73, 72, 66, 83, 82]⟩ : ByteArray) = some (hR1 f) ∧ whetstoneref02_in.f 10 f (⟨#[66, 83, 82]⟩ : ByteArray) = some (hR2 f) ∧ whetstoneref02_in.f 10 f (⟨#[74, 73, 83, 66]⟩ : ByteArray) = some (topF f) := by decide +kernel
theorem rin_k (f : Int) (hf : f ∈ [0, 85, 74, 73, 66, 83, 72, 82, 69]) (k : Nat) (hk : 10 ≤ k) : whetstoneref02_in.f k f (⟨#[85, 74, 73, 72, 82]⟩ : ByteArray) = some (hRd f) ∧ whetstoneref02_in.f k f (⟨#[73, 72, 66, 83, 82]⟩ : ByteArray) = some (hR1 f) ∧ whetstoneref02_in.f k f (⟨#[66, 83, 82]⟩ : ByteArray) = some (hR2 f) ∧ whetstoneref02_in.f k f (⟨#[74, 73, 83, 66]⟩ : ByteArray) = some (topF f) := by
  obtain ⟨h1, h2, h3, h4⟩ := rin_10 f hf
  exact ⟨at_rounds (whetstoneref02_in.mono _ _) hk h1, at_rounds (whetstoneref02_in.mono _ _) hk h2, at_rounds (whetstoneref02_in.mono _ _) hk h3, at_rounds (whetstoneref02_in.mono _ _) hk h4⟩
theorem frm_mem (a0 : Int) : frm a0 ∈ [0, 85, 74, 73, 66, 83, 72, 82, 69] := by
  rcases frm_cases a0 with ⟨_, h⟩ | ⟨_, h | h | h | h | h | h | h | h⟩ <;> rw [h] <;> decide
/-- What a bit adds to the number. -/
def addT (top : Bool) (L i w : Nat) (p : Int) : Int := if 0 ≤ p then (if w / 2 ^ p.toNat % 2 = 1 then ((2 ^ i : Nat) : Int) - (if i + 1 = L then (if top = true then ((2 * 2 ^ i : Nat) : Int) else 0) else 0) else 0) else 0
def sumT (top : Bool) (L : Nat) : List Int → Nat → Nat → Int
  | [], _, _ => 0
  | p :: ps, i, w => addT top L i w p + sumT top L ps (i + 1) w
theorem pow_small (i : Nat) (h : i ≤ 21) : 2 ^ i ≤ 2097152 := two_pow_le i 21 h
theorem wr_ (x : Int) (h : -100000000 ≤ x) (h2 : x ≤ 100000000) : wrap64 x = x := wrap64_lit x (by omega) (by omega)
theorem addT_bd (top : Bool) (L i w : Nat) (p : Int) : -((2 ^ i : Nat) : Int) ≤ addT top L i w p ∧ addT top L i w p ≤ ((2 ^ i : Nat) : Int) := by
  unfold addT
  generalize 2 ^ i = q
  repeat' split
  all_goals omega
theorem rTry_end (f : Int) (P : List Int) (w n wo : Int) (a0 a1 a2 a3 a4 : Int) (i k : Nat) (h : P.length ≤ i) : whetstoneref02_try.l0 (k + 1) w f P n wo (i : Int) a0 a1 a2 a3 a4 = some (a0, a1, a2, a3, n) := by
  simp only [whetstoneref02_try.l0]
  rw [if_neg (by omega)]
theorem rTry_step (f : Int) (hf : f ∈ [0, 85, 74, 73, 66, 83, 72, 82, 69]) (P : List Int) (hP : P.length ≤ 21) (w : Nat) (hw : w < 4294967296) (a0 a1 a2 a3 a4 : Int) (i k : Nat) (hk : 10 ≤ k) (h : i < P.length) (p : Int) (hp31 : p ≤ 31) (hrd : rd P (i : Int) = p)
    (n : Int) (hn : -((2 ^ i : Nat) : Int) ≤ n ∧ n < ((2 ^ i : Nat) : Int)) :
    whetstoneref02_try.l0 (k + 2) (w : Int) f P n ((2 ^ i : Nat) : Int) (i : Int) a0 a1 a2 a3 a4 =
      whetstoneref02_try.l0 k (w : Int) f P (n + addT (topF f) P.length i w p) ((2 ^ (i + 1) : Nat) : Int) ((i + 1 : Nat) : Int) a0 a1 a2 a3 a4 := by
  have hi := pow_small i (by omega)
  have hs : wrap64 ((i : Int) + 1) = ((i + 1 : Nat) : Int) := wrap_succ i (by omega)
  have hd : wrap64 (2 * ((2 ^ i : Nat) : Int)) = ((2 ^ (i + 1) : Nat) : Int) := by
    rw [Nat.pow_succ, wr_ _ (by omega) (by omega)]; omega
  have hL : ((i : Int) = wrap64 ((P.length : Int) - 1)) ↔ i + 1 = P.length := by rw [wr_ _ (by omega) (by omega)]; omega
  have h1 : wrap64 (n + ((2 ^ i : Nat) : Int)) = n + ((2 ^ i : Nat) : Int) := wr_ _ (by omega) (by omega)
  have h2 : wrap64 (n + ((2 ^ i : Nat) : Int) - ((2 ^ (i + 1) : Nat) : Int)) = n + (((2 ^ i : Nat) : Int) - ((2 * 2 ^ i : Nat) : Int)) := by
    rw [Nat.pow_succ, wr_ _ (by omega) (by omega)]; omega
  have hin := (rin_k f hf k hk).2.2.2
  have hB : 0 ≤ p → whetstoneref01_Bit.f (w : Int) p = some ((w / 2 ^ p.toNat % 2 : Nat) : Int) := by
    intro h0
    rw [Bit_eq w hw, if_pos ⟨h0, hp31⟩]
  rw [show whetstoneref02_try.l0 (k + 2) (w : Int) f P n ((2 ^ i : Nat) : Int) (i : Int) a0 a1 a2 a3 a4 = if 0 ≤ p then whetstoneref02_try.j4 (k + 1) (w : Int) f P n ((2 ^ i : Nat) : Int) (i : Int) (((if 0 ≤ p then w / 2 ^ p.toNat % 2 else 0 : Nat) : Int) == 1) a0 a1 a2 a3 a4 else whetstoneref02_try.j4 (k + 1) (w : Int) f P n ((2 ^ i : Nat) : Int) (i : Int) false a0 a1 a2 a3 a4 by
    simp only [whetstoneref02_try.l0]
    rw [if_pos (Int.ofNat_lt.mpr h), if_pos (Int.natCast_nonneg i), hrd]
    by_cases h0 : 0 ≤ p
    · rw [if_pos h0, if_pos h0, hB h0, obs, if_pos h0]
    · rw [if_neg h0, if_neg h0]]
  unfold addT
  by_cases h0 : 0 ≤ p
  · rw [if_pos h0, if_pos h0, if_pos h0]
    by_cases hb : w / 2 ^ p.toNat % 2 = 1
    · rw [hb, if_pos rfl, show (((1 : Nat) : Int) == 1) = true from rfl]
      simp only [whetstoneref02_try.j4, reduceIte]
      rw [hin, hs, hd, h1]
      by_cases hl : i + 1 = P.length
      · rw [if_pos (hL.mpr hl), if_pos hl, obs]
        cases ht : topF f
        · rw [if_neg (by decide), if_neg (by decide), Int.sub_zero]
        · rw [if_pos rfl, if_pos rfl, h2]
      · rw [if_neg (fun e => hl (hL.mp e)), if_neg hl, Int.sub_zero]
    · have hb0 : w / 2 ^ p.toNat % 2 = 0 := by omega
      rw [hb0, if_neg (by decide), show (((0 : Nat) : Int) == 1) = false from rfl]
      simp only [whetstoneref02_try.j4, Bool.false_eq_true, reduceIte]
      rw [hs, hd, Int.add_zero]
  · rw [if_neg h0, if_neg h0]
    simp only [whetstoneref02_try.j4, Bool.false_eq_true, reduceIte]
    rw [hs, hd, Int.add_zero]
theorem rTry_loop (f : Int) (hf : f ∈ [0, 85, 74, 73, 66, 83, 72, 82, 69]) (P : List Int) (hP : P.length ≤ 21) (w : Nat) (hw : w < 4294967296) (a0 a1 a2 a3 a4 : Int) :
    ∀ (ps : List Int) (i k : Nat) (n : Int), P.drop i = ps → (∀ p ∈ ps, p ≤ 31) → 10 + 2 * ps.length < k → -((2 ^ i : Nat) : Int) ≤ n ∧ n < ((2 ^ i : Nat) : Int) →
      whetstoneref02_try.l0 k (w : Int) f P n ((2 ^ i : Nat) : Int) (i : Int) a0 a1 a2 a3 a4 = some (a0, a1, a2, a3, n + sumT (topF f) P.length ps i w) := by
  intro ps
  induction ps with
  | nil =>
    intro i k n hd _ hk _
    obtain ⟨k, rfl⟩ : ∃ q, k = q + 1 := ⟨k - 1, by omega⟩
    rw [rTry_end f P _ _ _ _ _ _ _ _ i k (drop_nil hd)]
    simp [sumT]
  | cons p ps ih =>
    intro i k n hd hle hk hn
    simp only [List.length_cons] at hk
    obtain ⟨k, rfl⟩ : ∃ q, k = q + 2 := ⟨k - 2, by omega⟩
    obtain ⟨hlt, hrd, hnext⟩ := drop_head hd
    have hb := addT_bd (topF f) P.length i w p
    rw [rTry_step f hf P hP w hw a0 a1 a2 a3 a4 i k (by omega) hlt p (hle p (by simp)) hrd n hn, ih (i + 1) k _ hnext (fun q hq => hle q (by simp [hq])) (by omega) ?_]
    · simp only [sumT]
      rw [Int.add_assoc]
    · rw [Nat.pow_succ]
      generalize 2 ^ i = q at *
      omega
theorem sumT_run (top : Bool) (L s w : Nat) : ∀ (n a : Nat) (rest : List Int), (top = false ∨ a + n < L) → sumT top L ((List.range n).map (fun j => ((s + j : Nat) : Int)) ++ rest) a w = ((w / 2 ^ s % 2 ^ n * 2 ^ a : Nat) : Int) + sumT top L rest (a + n) w := by
  intro n
  induction n with
  | zero => intro a rest _; simp [Nat.mod_one]
  | succ n ih =>
    intro a rest h
    have hb : addT top L (a + n) w ((s + n : Nat) : Int) = ((w / 2 ^ s / 2 ^ n % 2 * 2 ^ n * 2 ^ a : Nat) : Int) := by
      unfold addT
      rw [if_pos (Int.natCast_nonneg _), Int.toNat_natCast, Nat.pow_add 2 s n, ← Nat.div_div_eq_div_mul]
      rcases Nat.mod_two_eq_zero_or_one (w / 2 ^ s / 2 ^ n) with e | e
      · rw [e, if_neg (by decide)]; simp
      · rw [e, if_pos rfl, Nat.one_mul, ← Nat.pow_add, Nat.add_comm n a]
        rcases h with h | h
        · rw [h]; simp
        · rw [if_neg (by omega), Int.sub_zero]
    rw [List.range_succ, List.map_append, List.append_assoc, ih a _ (h.imp id (fun h => by omega))]
    simp only [List.map_cons, List.map_nil, List.cons_append, List.nil_append, sumT]
    rw [hb, sumT_row, Nat.add_mul, Int.natCast_add, show a + n + 1 = a + (n + 1) by omega, Int.add_assoc]
theorem sumT_skip (top : Bool) (L w a : Nat) (rest : List Int) : sumT top L (-1 :: rest) a w = sumT top L rest (a + 1) w := by
  simp only [sumT, addT]
  rw [if_neg (by decide), Int.zero_add]
theorem sumT_at (top : Bool) (L : Nat) (ps : List Int) (s w n a : Nat) (rest : List Int) (h : ps = (List.range n).map (fun j => ((s + j : Nat) : Int)) ++ rest) (ht : top = false ∨ a + n < L) (A N S : Nat) (hA : 2 ^ a = A) (hN : 2 ^ n = N) (hS : 2 ^ s = S) (b : Nat) (hb : a + n = b) :
    sumT top L ps a w = ((w / S % N * A : Nat) : Int) + sumT top L rest b w := by
  subst hA hN hS hb
  rw [h, sumT_run _ _ _ _ _ _ _ ht]
theorem sumT_last (L s w a : Nat) (h : a + 1 = L) (A S : Nat) (hA : 2 ^ a = A) (hS : 2 ^ s = S) : sumT true L [(s : Int)] a w = ((w / S % 2 * A : Nat) : Int) - (if w / S % 2 = 1 then ((2 * A : Nat) : Int) else 0) := by
  subst hA hS
  simp only [sumT, addT]
  rw [if_pos (Int.natCast_nonneg _), Int.toNat_natCast, if_pos h]
  simp only [reduceIte]
  rcases Nat.mod_two_eq_zero_or_one (w / 2 ^ s) with e | e
  · rw [e, if_neg (by decide), if_neg (by decide)]; simp
  · rw [e, if_pos rfl, if_pos rfl, Nat.one_mul]; omega
theorem sumT_U (w : Nat) (hw : w < 4294967296) : sumT false 20 plU 0 w = ((w / 4096 : Nat) : Int) := by
  rw [sumT_at false 20 plU 12 w 20 0 [] (by decide) (Or.inl rfl) 1 1048576 4096 (by decide) (by decide) (by decide) 20 rfl]
  simp only [sumT, Nat.mul_one, Int.add_zero]
  congr 1
  omega
theorem sumT_H (w : Nat) : sumT false 5 plH 0 w = ((w / 1048576 % 32 : Nat) : Int) := by
  rw [sumT_at false 5 plH 20 w 5 0 [] (by decide) (Or.inl rfl) 1 32 1048576 (by decide) (by decide) (by decide) 5 rfl]
  simp only [sumT, Nat.mul_one, Int.add_zero]
theorem sumT_I (w : Nat) (hw : w < 4294967296) : sumT true 12 plI 0 w = sig (w / 1048576) 12 := by
  rw [sumT_at true 12 plI 20 w 11 0 [31] (by decide) (Or.inr (by decide)) 1 2048 1048576 (by decide) (by decide) (by decide) 11 rfl,
    show ([31] : List Int) = [((31 : Nat) : Int)] from rfl, sumT_last 12 31 w 11 rfl 2048 2147483648 (by decide) (by decide), sig12, Nat.mul_one]
  split <;> split <;> omega
theorem sumT_S (w : Nat) (hw : w < 4294967296) : sumT true 12 plS 0 w = sig (w / 33554432 * 32 + w / 128 % 32) 12 := by
  rw [sumT_at true 12 plS 7 w 5 0 [25, 26, 27, 28, 29, 30, 31] (by decide) (Or.inr (by decide)) 1 32 128 (by decide) (by decide) (by decide) 5 rfl,
    sumT_at true 12 _ 25 w 6 5 [31] (by decide) (Or.inr (by decide)) 32 64 33554432 (by decide) (by decide) (by decide) 11 rfl,
    show ([31] : List Int) = [((31 : Nat) : Int)] from rfl, sumT_last 12 31 w 11 rfl 2048 2147483648 (by decide) (by decide), sig12, Nat.mul_one]
  have e : w / 2147483648 = w / 33554432 / 64 := by rw [Nat.div_div_eq_div_mul]
  have h1 : w / 33554432 < 128 := by omega
  have h2 : w / 128 % 32 < 32 := Nat.mod_lt _ (by decide)
  rw [e]
  generalize w / 33554432 = y at *
  generalize w / 128 % 32 = t at *
  clear hw e
  split <;> split <;> omega
theorem sumT_J (w : Nat) (hw : w < 4294967296) : sumT true 21 plJ 0 w = sig (w / 2147483648 * 1048576 + w / 4096 % 256 * 4096 + w / 1048576 % 2 * 2048 + w / 2097152 % 1024 * 2) 21 := by
  rw [show plJ = -1 :: [21, 22, 23, 24, 25, 26, 27, 28, 29, 30, 20, 12, 13, 14, 15, 16, 17, 18, 19, 31] from rfl, sumT_skip,
    sumT_at true 21 _ 21 w 10 1 [20, 12, 13, 14, 15, 16, 17, 18, 19, 31] (by decide) (Or.inr (by decide)) 2 1024 2097152 (by decide) (by decide) (by decide) 11 rfl,
    sumT_at true 21 _ 20 w 1 11 [12, 13, 14, 15, 16, 17, 18, 19, 31] (by decide) (Or.inr (by decide)) 2048 2 1048576 (by decide) (by decide) (by decide) 12 rfl,
    sumT_at true 21 _ 12 w 8 12 [31] (by decide) (Or.inr (by decide)) 4096 256 4096 (by decide) (by decide) (by decide) 20 rfl,
    show ([31] : List Int) = [((31 : Nat) : Int)] from rfl, sumT_last 21 31 w 20 rfl 1048576 2147483648 (by decide) (by decide), sig21]
  have h1 : w / 2147483648 < 2 := by omega
  have h2 : w / 4096 % 256 < 256 := Nat.mod_lt _ (by decide)
  have h3 : w / 1048576 % 2 < 2 := Nat.mod_lt _ (by decide)
  have h4 : w / 2097152 % 1024 < 1024 := Nat.mod_lt _ (by decide)
  generalize w / 2147483648 = t1 at *
  generalize w / 4096 % 256 = t2 at *
  generalize w / 1048576 % 2 = t3 at *
  generalize w / 2097152 % 1024 = t4 at *
  clear hw
  split <;> split <;> omega
theorem sumT_B (w : Nat) (hw : w < 4294967296) : sumT true 13 plB 0 w = sig (w / 2147483648 * 4096 + w / 128 % 2 * 2048 + w / 33554432 % 64 * 32 + w / 256 % 16 * 2) 13 := by
  rw [show plB = -1 :: [8, 9, 10, 11, 25, 26, 27, 28, 29, 30, 7, 31] from rfl, sumT_skip,
    sumT_at true 13 _ 8 w 4 1 [25, 26, 27, 28, 29, 30, 7, 31] (by decide) (Or.inr (by decide)) 2 16 256 (by decide) (by decide) (by decide) 5 rfl,
    sumT_at true 13 _ 25 w 6 5 [7, 31] (by decide) (Or.inr (by decide)) 32 64 33554432 (by decide) (by decide) (by decide) 11 rfl,
    sumT_at true 13 _ 7 w 1 11 [31] (by decide) (Or.inr (by decide)) 2048 2 128 (by decide) (by decide) (by decide) 12 rfl,
    show ([31] : List Int) = [((31 : Nat) : Int)] from rfl, sumT_last 13 31 w 12 rfl 4096 2147483648 (by decide) (by decide), sig13]
  have h1 : w / 2147483648 < 2 := by omega
  have h2 : w / 256 % 16 < 16 := Nat.mod_lt _ (by decide)
  have h3 : w / 128 % 2 < 2 := Nat.mod_lt _ (by decide)
  have h4 : w / 33554432 % 64 < 64 := Nat.mod_lt _ (by decide)
  generalize w / 2147483648 = t1 at *
  generalize w / 256 % 16 = t2 at *
  generalize w / 128 % 2 = t3 at *
  generalize w / 33554432 % 64 = t4 at *
  clear hw
  split <;> split <;> omega
theorem sumT_imm (f : Int) (w : Nat) (hw : w < 4294967296) : sumT (topF f) (plc f).length (plc f) 0 w = immv f w := by
  by_cases h1 : f = 85
  · subst h1; exact sumT_U w hw
  by_cases h2 : f = 74
  · subst h2; exact sumT_J w hw
  by_cases h3 : f = 73
  · subst h3; exact sumT_I w hw
  by_cases h4 : f = 83
  · subst h4; exact sumT_S w hw
  by_cases h5 : f = 66
  · subst h5; exact sumT_B w hw
  by_cases h6 : f = 72
  · subst h6; exact sumT_H w
  unfold plc immv
  rw [if_neg h1, if_neg h2, if_neg h3, if_neg h4, if_neg h5, if_neg h6, if_neg h1, if_neg h2, if_neg h3, if_neg h4, if_neg h5, if_neg h6]
  rfl
theorem plc_len (f : Int) : (plc f).length ≤ 21 ∧ ∀ p ∈ plc f, p ≤ 31 := by
  unfold plc
  repeat' split
  all_goals decide
theorem rField5 (w p : Nat) (hw : w < 4294967296) (hp : p ≤ 27) (k : Nat) (hk : 80 < k) : whetstoneref01_Field.f k (w : Int) (p : Int) 5 = some ((w / 2 ^ p % 32 : Nat) : Int) := by
  rw [show (5 : Int) = ((5 : Nat) : Int) from rfl, rField_all w hw _ _ k hk]
  unfold fld
  rw [if_pos (may_nat (by omega) (by decide) (by omega)), Int.toNat_natCast]
  rfl
theorem w64_5 (x : Nat) : wrap64 ((x % 32 : Nat) : Int) = ((x % 32 : Nat) : Int) := by
  have := Nat.mod_lt x (show 0 < 32 by decide)
  rw [wr_ _ (by omega) (by omega)]
theorem rTry_eq (op : Nat) (w : Nat) (hw : w < 4294967296) (k : Nat) (hk : 150 < k) :
    whetstoneref02_try.f k (op : Int) (w : Int) = some ((op : Int), (if hRd (frm op) = true then ((w / 128 % 32 : Nat) : Int) else 0), (if hR1 (frm op) = true then ((w / 32768 % 32 : Nat) : Int) else 0), (if hR2 (frm op) = true then ((w / 1048576 % 32 : Nat) : Int) else 0), immv (frm op) w) := by
  obtain ⟨k, rfl⟩ : ∃ q, k = q + 3 := ⟨k - 3, by omega⟩
  have hf := frm_mem (op : Int)
  generalize hF : frm (op : Int) = f at hf
  unfold whetstoneref02_try.f
  rw [rForm_eq, obs, hF, (rin_k f hf (k + 3) (by omega)).1, obs]
  have f1 := rField5 w 7 hw (by decide) (k + 3) (by omega)
  have f2 := rField5 w 15 hw (by decide) (k + 2) (by omega)
  have f3 := rField5 w 20 hw (by decide) (k + 1) (by omega)
  obtain ⟨pl, p31⟩ := plc_len f
  have hl (a0 a1 a2 a3 : Int) : whetstoneref02_try.j2 (k + 1) (w : Int) f a0 a1 a2 a3 0 = some (a0, a1, a2, a3, immv f w) := by
    simp only [whetstoneref02_try.j2]
    rw [places_eq, obs]
    have := rTry_loop f hf (plc f) pl w hw a0 a1 a2 a3 0 (plc f) 0 k 0 rfl p31 (by omega) (by decide)
    rw [Int.zero_add, sumT_imm f w hw] at this
    exact this
  have h1 (a0 a1 a2 : Int) : whetstoneref02_try.j1 (k + 2) (w : Int) f a0 a1 a2 0 0 = some (a0, a1, a2, (if hR2 f = true then ((w / 1048576 % 32 : Nat) : Int) else 0), immv f w) := by
    simp only [whetstoneref02_try.j1]
    rw [(rin_k f hf (k + 1) (by omega)).2.2.1, obs]
    cases hR2 f
    · rw [if_neg (by decide), if_neg (by decide), hl]
    · rw [if_pos rfl, if_pos rfl, show (20 : Int) = ((20 : Nat) : Int) from rfl, f3, obs, w64_5, hl]
  have h0 (a0 a1 : Int) : whetstoneref02_try.j0 (k + 3) (w : Int) f a0 a1 0 0 0 = some (a0, a1, (if hR1 f = true then ((w / 32768 % 32 : Nat) : Int) else 0), (if hR2 f = true then ((w / 1048576 % 32 : Nat) : Int) else 0), immv f w) := by
    simp only [whetstoneref02_try.j0]
    rw [(rin_k f hf (k + 2) (by omega)).2.1, obs]
    cases hR1 f
    · rw [if_neg (by decide), if_neg (by decide), h1]
    · rw [if_pos rfl, if_pos rfl, show (15 : Int) = ((15 : Nat) : Int) from rfl, f2, obs, w64_5, h1]
  cases hRd f
  · rw [if_neg (by decide), if_neg (by decide), h0]
  · rw [if_pos rfl, if_pos rfl, show (7 : Int) = ((7 : Nat) : Int) from rfl, f1, obs, w64_5, h0]
/-! ## the reference: Decode -/
/-- Is it the word of the kind's? -/
def hit (j w : Nat) : Prop := (j < 45 ∧ tk j w) ∨ (j = 45 ∧ w = 115) ∨ (j = 46 ∧ w = 1048691)
instance (j w : Nat) : Decidable (hit j w) := by unfold hit; infer_instance
def decv (j w : Nat) : Int × Int × Int × Int × Int × Int := if j < 45 then decx j w else ((j : Int), 0, 0, 0, 0, 0)
theorem Enc_k (k : Nat) (hk : 200 ≤ k) (a0 a1 a2 a3 a4 : Int) : whetstoneref02_Encode.f k a0 a1 a2 a3 a4 = inst_Encode.f k a0 a1 a2 a3 a4 := by
  cases h : inst_Encode.f 200 a0 a1 a2 a3 a4 with
  | none =>
    rcases Enc_cases a0 a1 a2 a3 a4 with ⟨_, w, _, h2⟩ | ⟨_, h2⟩
    · rw [(h2 200 (by omega)).1] at h; cases h
    · rw [h2 200 (by omega)] at h; cases h
  | some x => rw [at_rounds (inst_Encode.mono _ _ _ _ _) hk h, at_rounds (whetstoneref02_Encode.mono _ _ _ _ _) hk ((rEncode_eq _ _ _ _ _).trans h)]
theorem frm_45 : frm ((45 : Nat) : Int) = 69 ∧ frm ((46 : Nat) : Int) = 69 := by decide +kernel
/-- What the reference tries at a kind. -/
theorem rDec_step (w : Nat) (hw : w < 4294967296) (j : Nat) (hj : j < 47) (k : Nat) (hk : 200 ≤ k) :
    whetstoneref02_Decode.l0 (k + 1) (w : Int) (j : Int) = if hit j w then some (decv j w) else whetstoneref02_Decode.l0 k (w : Int) ((j + 1 : Nat) : Int) := by
  simp only [whetstoneref02_Decode.l0]
  rw [if_pos (show (j : Int) < 47 by omega), rTry_eq j w hw k (by omega), obs, wrap_succ j (by omega)]
  simp only
  rw [Enc_k k hk]
  by_cases h45 : j < 45
  · obtain ⟨a, b, c, d, R⟩ := row_at j h45
    rw [frm_row R h45]
    have hx : decv j w = ((j : Int), (if hRd a = true then ((w / 128 % 32 : Nat) : Int) else 0), (if hR1 a = true then ((w / 32768 % 32 : Nat) : Int) else 0), (if hR2 a = true then ((w / 1048576 % 32 : Nat) : Int) else 0), immv a w, 0) := by
      unfold decv decx
      rw [if_pos h45, R.get]
    by_cases ht : tk j w
    · rw [if_pos (show hit j w from Or.inl ⟨h45, ht⟩), hx]
      obtain ⟨f1, f2⟩ := forth_row R w hw ht
      have m1 := Nat.mod_lt (w / 128) (show 0 < 32 by decide)
      have m2 := Nat.mod_lt (w / 32768) (show 0 < 32 by decide)
      have m3 := Nat.mod_lt (w / 1048576) (show 0 < 32 by decide)
      have e := Encode_some R h45 (if hRd a = true then w / 128 % 32 else 0) (if hR1 a = true then w / 32768 % 32 else 0) (if hR2 a = true then w / 1048576 % 32 else 0) (immv a w) (if_lt _ _ m1) (if_lt _ _ m2) (if_lt _ _ m3)
        (if_zero _ _) (if_zero _ _) (if_zero _ _) f1 k (by omega)
      rw [f2] at e
      rw [cast_if, cast_if, cast_if, e, obs]
      simp only [reduceIte]
    · have hn : ¬ hit j w := by
        rintro (⟨_, h⟩ | ⟨h, _⟩ | ⟨h, _⟩)
        · exact ht h
        · omega
        · omega
      rw [if_neg hn]
      rcases Enc_cases (j : Int) (if hRd a = true then ((w / 128 % 32 : Nat) : Int) else 0) (if hR1 a = true then ((w / 32768 % 32 : Nat) : Int) else 0) (if hR2 a = true then ((w / 1048576 % 32 : Nat) : Int) else 0) (immv a w) with ⟨hr, v, hv, h2⟩ | ⟨hr, h2⟩
      · rw [(h2 k (by omega)).1, obs]
        simp only [reduceIte]
        have hne : ¬ ((v : Int) = (w : Int)) := by
          intro e
          have e' : v = w := Int.ofNat.inj e
          subst e'
          apply ht
          have hd := (h2 k (by omega)).2
          rcases Decode_cases v hw with ⟨i, i1, i2, i3⟩ | ⟨i1, i3⟩ | ⟨i1, i3⟩ | ⟨_, _, _, i3⟩
          · rw [i3 k (by omega)] at hd
            unfold decx at hd
            have := congrArg Prod.fst (Option.some.inj hd)
            simp only at this
            have : i = j := Int.ofNat.inj this
            subst this
            exact i2
          · rw [i3 k (by omega)] at hd
            have := congrArg Prod.fst (Option.some.inj hd)
            simp only at this
            omega
          · rw [i3 k (by omega)] at hd
            have := congrArg Prod.fst (Option.some.inj hd)
            simp only at this
            omega
          · rw [i3 k (by omega)] at hd
            have := congrArg (fun x => x.2.2.2.2.2) (Option.some.inj hd)
            simp at this
        rw [if_neg hne]
      · rw [h2 k (by omega), obs]
        simp only
        rw [if_neg (by decide)]
  · have h46 : j = 45 ∨ j = 46 := by omega
    have hf : frm (j : Int) = 69 := by rcases h46 with rfl | rfl; exact frm_45.1; exact frm_45.2
    have hi : immv 69 w = 0 := rfl
    rw [hf, hi, if_neg (by decide), if_neg (by decide), if_neg (by decide), Encode_e (j : Int) (by omega) k (by omega), obs]
    simp only [reduceIte]
    unfold decv
    rw [if_neg h45]
    rcases h46 with rfl | rfl
    · by_cases e : w = 115
      · rw [if_pos (show hit 45 w from Or.inr (Or.inl ⟨rfl, e⟩)), if_pos (by rw [e]; rfl)]
      · rw [if_neg (show ¬ hit 45 w by rintro (⟨h, _⟩ | ⟨_, h⟩ | ⟨h, _⟩) <;> omega), if_neg (show ¬ ((if ((45 : Nat) : Int) = 45 then (115 : Int) else 1048691) = (w : Int)) by rw [if_pos (show ((45 : Nat) : Int) = 45 from rfl)]; omega)]
    · by_cases e : w = 1048691
      · rw [if_pos (show hit 46 w from Or.inr (Or.inr ⟨rfl, e⟩)), if_pos (by rw [e]; rfl)]
      · rw [if_neg (show ¬ hit 46 w by rintro (⟨h, _⟩ | ⟨h, _⟩ | ⟨_, h⟩) <;> omega), if_neg (show ¬ ((if ((46 : Nat) : Int) = 45 then (115 : Int) else 1048691) = (w : Int)) by rw [if_neg (by decide)]; omega)]
theorem rDec_from (w : Nat) (hw : w < 4294967296) (d : Nat) : ∀ (j k : Nat), j + d = 47 → 201 + d < k →
    whetstoneref02_Decode.l0 k (w : Int) (j : Int) = match (List.range' j d).find? (fun i => decide (hit i w)) with | some i => some (decv i w) | none => some (0, 0, 0, 0, 0, 20) := by
  induction d with
  | zero =>
    intro j k hj hk
    obtain ⟨k, rfl⟩ : ∃ q, k = q + 1 := ⟨k - 1, by omega⟩
    simp only [whetstoneref02_Decode.l0]
    rw [if_neg (by omega)]
    rfl
  | succ d ih =>
    intro j k hj hk
    obtain ⟨k, rfl⟩ : ∃ q, k = q + 1 := ⟨k - 1, by omega⟩
    rw [rDec_step w hw j (by omega) k (by omega), List.range'_succ, List.find?_cons]
    by_cases h : hit j w
    · rw [if_pos h, decide_eq_true h]
    · rw [if_neg h, decide_eq_false h, ih (j + 1) k (by omega) (by omega)]
theorem hit_one (i j w : Nat) (hi : hit i w) (hj : hit j w) : i = j := by
  rcases hi with ⟨a1, a2⟩ | ⟨a1, a2⟩ | ⟨a1, a2⟩ <;> rcases hj with ⟨b1, b2⟩ | ⟨b1, b2⟩ | ⟨b1, b2⟩
  · exact tells_one i j w (by omega) (by omega) a2 b2
  · have := (tk_not i w (by omega) a2).1; omega
  · have := (tk_not i w (by omega) a2).1; omega
  · have := (tk_not j w (by omega) b2).1; omega
  · omega
  · omega
  · have := (tk_not j w (by omega) b2).1; omega
  · omega
  · omega
theorem rDecode_hit (w : Nat) (hw : w < 4294967296) (j : Nat) (hj : j < 47) (h : hit j w) (k : Nat) (hk : 300 ≤ k) : whetstoneref02_Decode.f k (w : Int) = some (decv j w) := by
  unfold whetstoneref02_Decode.f
  have := rDec_from w hw 47 0 k rfl (by omega)
  rw [show ((0 : Nat) : Int) = 0 from rfl] at this
  rw [this]
  cases e : (List.range' 0 47).find? (fun i => decide (hit i w)) with
  | none =>
    have := List.find?_eq_none.mp e j (by simp; omega)
    simp [h] at this
  | some i =>
    have hi := List.find?_some e
    rw [hit_one i j w (of_decide_eq_true hi) h]
theorem rDecode_none (w : Nat) (hw : w < 4294967296) (h : ∀ j, j < 47 → ¬ hit j w) (k : Nat) (hk : 300 ≤ k) : whetstoneref02_Decode.f k (w : Int) = some (0, 0, 0, 0, 0, 20) := by
  unfold whetstoneref02_Decode.f
  have := rDec_from w hw 47 0 k rfl (by omega)
  rw [show ((0 : Nat) : Int) = 0 from rfl] at this
  rw [this]
  cases e : (List.range' 0 47).find? (fun i => decide (hit i w)) with
  | none => rfl
  | some i =>
    have hm := List.mem_of_find?_eq_some e
    have hi := List.find?_some e
    exact absurd (of_decide_eq_true hi) (h i (by simp at hm; omega))
/-- Decode and the reference's are one. -/
theorem rDecode_eq (w : Nat) (hw : w < 4294967296) (k : Nat) (hk : 300 ≤ k) : whetstoneref02_Decode.f k (w : Int) = inst_Decode.f k (w : Int) := by
  rcases Decode_cases w hw with ⟨j, j1, j2, j3⟩ | ⟨j1, j3⟩ | ⟨j1, j3⟩ | ⟨j0, j1, j2, j3⟩
  · have h45 := (tk_not j w j1 j2).2
    rw [j3 k (by omega), rDecode_hit w hw j j1 (Or.inl ⟨h45, j2⟩) k hk]
    unfold decv
    rw [if_pos h45]
  · rw [j3 k (by omega), rDecode_hit w hw 45 (by decide) (Or.inr (Or.inl ⟨rfl, j1⟩)) k hk]
    rfl
  · rw [j3 k (by omega), rDecode_hit w hw 46 (by decide) (Or.inr (Or.inr ⟨rfl, j1⟩)) k hk]
    rfl
  · rw [j3 k (by omega), rDecode_none w hw ?_ k hk]
    rintro j hj (⟨h1, h2⟩ | ⟨_, h2⟩ | ⟨_, h2⟩)
    · exact j2 j hj h2
    · exact j0 h2
    · exact j1 h2
theorem fixed_300 : whetstonelaw02_fixed.f 300 = some true := fixed_ok 300 (by decide)
end Go.Proofs.Ytegpiempnjbfjaa.Q
