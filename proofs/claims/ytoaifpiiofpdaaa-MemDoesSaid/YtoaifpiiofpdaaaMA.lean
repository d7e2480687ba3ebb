import Derived.Test.YtoaifpiiofpdaaaIT
import Derived.WalkKit
import Derived.KernelRfl
import Derived.Below
import Derived.Outline
import Derived.LoopTactic
import Derived.Maps.Own
import Derived.Maps.OwnOps
import Derived.Maps.OwnSet
import Derived.Maps.Views
import Derived.Maps.AppendAt
import Derived.Laws.BitsLemmas
import Derived.Laws.BitsAllLaws
import Derived.Deep.LoopGhost
import Derived.Lib.Hide
import Derived.RangeFuncBox
import Derived.OwnWalk
import Derived.Laws.OwnMore
import Derived.Laws.BytesArg
import Derived.Laws.MakeOwn
namespace Go.Proofs.Ytoaifpiiofpdaaa.Mm
open Go.RowKit Go.Maps Go.Proofs
set_option linter.unusedVariables false
set_option linter.unusedSimpArgs false
/-! ## What a memory holds -/
def KU (a : Nat) : Lit := .int .u32 (a : Int)
/-- The map in block b holds the bytes f (a byte that is 0 has no entry), in at most n entries. -/
def MapAt (w : World) (b n : Nat) (f : Nat → Nat) : Prop :=
  (∃ D : DataW Unit, w.ownsMap Try.prog 22 (plainElem Try.prog 5) b n D ∧ (∀ a, a < 4294967296 → D.atKey (KU a) (.lit (.int .u8 0)) = .lit (.int .u8 (f a : Int)) ∧ Maps.has D (KU a) = decide (f a ≠ 0))) ∧ (∀ a, f a < 256) ∧ (∀ a, 4294967296 ≤ a → f a = 0)
/-- p leads to a memory whose map is block b. -/
structure MemAt (w : World) (p b n : Nat) (f : Nat → Nat) : Prop where
  ptr : w.heap[p]? = some (.cells #[.map (some b)] 53 (0, 0))
  map : MapAt w b n f
theorem law : Keyed Try.prog 22 := int_keyed Try.underlying22
theorem zeroE (w : World) : (zeroValue 5).run Try.prog w = .ok (.int .u8 0) w := by kernel_rfl
theorem key_wf (a : Nat) (h : a < 4294967296) : (Lit.int .u32 (a : Int)).wf = true := by
  exact WalkArith.wf_u32 ⟨by omega, by omega⟩
theorem MemAt.ne {w : World} {p b n : Nat} {f : Nat → Nat} (h : MemAt w p b n f) : p ≠ b := by
  intro e
  obtain ⟨⟨D, ho, _⟩, _⟩ := h.map
  obtain ⟨es, clock, hb, _⟩ := ho
  have := h.ptr
  rw [e, hb] at this
  cases this
theorem MemAt.cell {w : World} {p b n : Nat} {f : Nat → Nat} (h : MemAt w p b n f) : w.cell? ⟨p, 0, none⟩ = some (.map (some b)) := by
  simp [World.cell?, h.ptr]
theorem MapAt.kept {w w' : World} {b n : Nat} {f : Nat → Nat} {row : Option Nat} (h : MapAt w b n f) (hg : w.grownBy w' row) (hne : some b ≠ row) : MapAt w' b n f := by
  obtain ⟨⟨D, ho, hD⟩, h2⟩ := h
  exact ⟨⟨D, ho.kept hg hne, hD⟩, h2⟩
theorem MapAt.mono {w : World} {b n n' : Nat} {f : Nat → Nat} (h : MapAt w b n f) (hn : n ≤ n') : MapAt w b n' f := by
  obtain ⟨⟨D, ho, hD⟩, h2⟩ := h
  exact ⟨⟨D, ho.mono hn, hD⟩, h2⟩
theorem MapAt.lt {w : World} {b n : Nat} {f : Nat → Nat} (h : MapAt w b n f) : b < w.heap.size := by
  obtain ⟨⟨D, ho, hD⟩, h2⟩ := h
  exact ho.lt
theorem MemAt.lt {w : World} {p b n : Nat} {f : Nat → Nat} (h : MemAt w p b n f) : p < w.heap.size := (Array.getElem?_eq_some_iff.1 h.ptr).1
theorem MemAt.kept {w w' : World} {p b n : Nat} {f : Nat → Nat} {row : Option Nat} (h : MemAt w p b n f) (hg : w.grownBy w' row) (hb : some b ≠ row) (hp : some p ≠ row) : MemAt w' p b n f :=
  ⟨(hg.block p h.lt hp).trans h.ptr, h.map.kept hg hb⟩
theorem MemAt.mono {w : World} {p b n n' : Nat} {f : Nat → Nat} (h : MemAt w p b n f) (hn : n ≤ n') : MemAt w p b n' f := ⟨h.ptr, h.map.mono hn⟩
/-- One byte turned. -/
def upd (f : Nat → Nat) (a c : Nat) : Nat → Nat := fun x => if x = a then c else f x
theorem KU_key (a : Nat) (h : a < 4294967296) : keyOf Try.prog 22 (.int .u32 (a : Int)) = some (KU a) := Maps.keyOf_int_mk Try.underlying22 (key_wf a h)
theorem KU_ne {a x : Nat} (h : x ≠ a) : KU x ≠ KU a := fun e => h (by simp [KU] at e; omega)
theorem isKey_KU (a : Nat) (h : a < 4294967296) : WideAt.IsKeyLit (KU a) := by
  trivial
theorem wp_look {w : World} {ops : Array Oper} {rest : List Oper} {o : Oper} {ac : Act} {Q : Exit → Act → World → Prop} (hg : o.guard = none) (m x : Operand) (hop : o.op = Op.lookup 51 m x false)
    (b n : Nat) (f : Nat → Nat) (hm : ac.eval m = .map (some b)) (h : MapAt w b n f) (k : Nat) (hk : k < 4294967296) (hx : ac.eval x = .int .u32 (k : Int)) (hK : wpList Try.prog ops Q rest (ac.put o.dst (.int .u8 (f k : Int))) w) : wpList Try.prog ops Q (o :: rest) ac w := by
  obtain ⟨⟨D, ho, hD⟩, _⟩ := h
  refine wpList_lookup_own_int w hg m x _ hop 22 5 .u8 law Try.underlying51 Try.underlying5 (zeroE _) b n D hm ho _ (KU k) hx (KU_key k hk) ?_
  intro c hc _
  rw [(hD k hk).1] at hc
  have : c = (f k : Int) := by simpa using hc.symm
  rw [this]
  exact hK
theorem wp_put {w : World} {ops : Array Oper} {rest : List Oper} {o : Oper} {ac : Act} {Q : Exit → Act → World → Prop} (hg : o.guard = none) (m x v : Operand) (hop : o.op = Op.mapUpdate 51 m x v)
    (b n : Nat) (f : Nat → Nat) (hm : ac.eval m = .map (some b)) (h : MapAt w b n f) (hn : n < maxLen) (k c : Nat) (hk : k < 4294967296) (hc : c < 256) (hc0 : c ≠ 0) (hx : ac.eval x = .int .u32 (k : Int)) (hv : ac.eval v = .int .u8 (c : Int))
    (hK : ∀ w', MapAt w' b (n + 1) (upd f k c) → w.grownBy w' (some b) → wpList Try.prog ops Q rest (ac.put o.dst undef) w') : wpList Try.prog ops Q (o :: rest) ac w := by
  obtain ⟨⟨D, ho, hD⟩, h1, h2⟩ := h
  refine wpList_mapUpdate_own w hg m x v _ hop 22 5 law Try.underlying51 _ b n D hm ho hn _ _ (KU k) hx hv (KU_key k hk) _ [] (plainElem_int Try.underlying5 (WalkArith.wf_u8 ⟨by omega, by omega⟩)) ?_
  intro w' ho' hgr
  refine hK w' ⟨⟨_, ho', fun a ha => ?_⟩, fun a => ?_, fun a ha => ?_⟩ hgr
  · by_cases e : a = k
    · subst e
      rw [atKey_put_same ho.isMap (isKey_KU a ha), has_put_same ho.isMap (isKey_KU a ha)]
      simp [upd, hc0]
    · rw [atKey_put_other (KU_ne e), has_put_other (KU_ne e)]
      simp only [upd, if_neg e]
      exact hD a ha
  · unfold upd; split
    · exact hc
    · exact h1 a
  · unfold upd; rw [if_neg (by omega)]; exact h2 a ha
theorem wp_del {w : World} {ops : Array Oper} {rest : List Oper} {o : Oper} {ac : Act} {Q : Exit → Act → World → Prop} (hg : o.guard = none) (m x : Operand) (hop : o.op = Op.call { callee := Callee.builtin Builtin.delete, args := #[m, x], argTypes := #[51, 22] })
    (b n : Nat) (f : Nat → Nat) (hm : ac.eval m = .map (some b)) (h : MapAt w b n f) (k : Nat) (hk : k < 4294967296) (hx : ac.eval x = .int .u32 (k : Int))
    (hK : ∀ w', MapAt w' b (n + 1) (upd f k 0) → w.grownBy w' (some b) → wpList Try.prog ops Q rest (ac.put o.dst (.tuple #[])) w') : wpList Try.prog ops Q (o :: rest) ac w := by
  obtain ⟨⟨D, ho, hD⟩, h1, h2⟩ := h
  refine wpList_delete_own w hg m x _ 22 hop 5 law Try.underlying51 _ b n D hm ho _ (KU k) hx (KU_key k hk) ?_
  intro w' ho' ht
  refine hK w' ⟨⟨_, ho'.mono (Nat.le_succ n), fun a ha => ?_⟩, fun a => ?_, fun a ha => ?_⟩ ht.grown
  · by_cases e : a = k
    · subst e
      rw [atKey_del_same, has_del_same]
      simp [upd]
    · rw [atKey_del_other (KU_ne e), has_del_other (KU_ne e)]
      simp only [upd, if_neg e]
      exact hD a ha
  · unfold upd; split
    · omega
    · exact h1 a
  · unfold upd; split
    · rfl
    · exact h2 a ha
/-! ## The functions of mem -/
theorem sized_calls (n : Int) (w : World) : Calls Try.prog 23 #[.int .i64 n] w fun e w' => e = .returned (.bool (decide (n = 1 ∨ n = 2 ∨ n = 4))) ∧ w = w' := by
  by_cases h1 : n = 1
  · subst h1
    go_enter Try.func23, Try.ntmps23
    go_wp2
    go_ret
    exact ⟨by simp, rfl⟩
  have b1 : (n == 1) = false := beq_eq_false_iff_ne.mpr h1
  by_cases h2 : n = 2
  · subst h2
    go_enter Try.func23, Try.ntmps23
    go_wp2
    go_ret
    exact ⟨by simp, rfl⟩
  have b2 : (n == 2) = false := beq_eq_false_iff_ne.mpr h2
  by_cases h4 : n = 4
  · subst h4
    go_enter Try.func23, Try.ntmps23
    go_wp2
    go_ret
    exact ⟨by simp, rfl⟩
  have b4 : (n == 4) = false := beq_eq_false_iff_ne.mpr h4
  rw [show decide (n = 1 ∨ n = 2 ∨ n = 4) = false from decide_eq_false (by omega)]
  clear h1 h2 h4
  go_enter Try.func23, Try.ntmps23
  go_wp2
  go_ret
  exact ⟨rfl, rfl⟩
theorem set_calls (p b n : Nat) (f : Nat → Nat) (a c : Nat) (w : World) (h : MemAt w p b n f) (hn : n < 1000000000) (ha : a < 4294967296) (hc : c < 256) :
    Calls Try.prog 24 #[.pointer (some ⟨p, 0, none⟩), .int .u32 (a : Int), .int .u8 (c : Int)] w fun e w' => e = .returned (.tuple #[]) ∧ MemAt w' p b (n + 1) (upd f a c) ∧ w.grownBy w' (some b) := by
  have hne := h.ne
  have hcell := h.cell
  have hm := h.map
  have HH := Lib.hid h
  clear h
  by_cases h0 : c = 0
  · have hb : ((c : Int) == 0) = true := beq_iff_eq.mpr (by omega)
    go_enter Try.func24, Try.ntmps24
    go_wp2_with (at_delete; refine wp_del rfl _ _ rfl b n f rfl hm a ha rfl ?_; intro w1 hm1 hg1)
    refine bodyPost_ret (results_none rfl _ _ _) rfl ?_
    rw [h0]
    exact ⟨rfl, ⟨(hg1.block p HH.out.lt (fun e => hne (by cases e; rfl))).trans HH.out.ptr, hm1⟩, hg1⟩
  · have hb : ((c : Int) == 0) = false := beq_eq_false_iff_ne.mpr (by omega)
    go_enter Try.func24, Try.ntmps24
    go_wp2_with (at_mapUpdate; refine wp_put rfl _ _ _ rfl b n f rfl hm (by unfold maxLen; omega) a c ha hc h0 rfl rfl ?_; intro w1 hm1 hg1)
    go_end0
    exact ⟨rfl, ⟨(hg1.block p HH.out.lt (fun e => hne (by cases e; rfl))).trans HH.out.ptr, hm1⟩, hg1⟩
/-- A number of k bytes, the lowest first. -/
def ld (f : Nat → Nat) (a : Nat) : Nat → Nat
  | 0 => 0
  | k + 1 => ld f a k + f ((a + k) % 4294967296) * 256 ^ k
theorem ld_lt (f : Nat → Nat) (a k : Nat) (h : ∀ x, f x < 256) : ld f a k < 256 ^ k := by
  induction k with
  | zero => simp [ld]
  | succ k ih =>
    have := h ((a + k) % 4294967296)
    have e : 256 ^ (k + 1) = 256 ^ k * 256 := Nat.pow_succ _ _
    have e2 : f ((a + k) % 4294967296) * 256 ^ k ≤ 255 * 256 ^ k := Nat.mul_le_mul_right _ (by omega)
    show ld f a k + f ((a + k) % 4294967296) * 256 ^ k < _
    omega
theorem pow_cast (s : Nat) : ((2 : Int) ^ s) = ((2 ^ s : Nat) : Int) := by push_cast; rfl
theorem or_put (x c s : Nat) (hx : x < 2 ^ s) (hc : c < 256) (hs : s ≤ 24) : Go.bits .or .u32 (x : Int) ((c : Int) % 4294967296 * 2 ^ s % 4294967296) = ((x + c * 2 ^ s : Nat) : Int) := by
  have h2 : 2 ^ s ≤ 2 ^ 24 := Nat.pow_le_pow_right (by decide) hs
  have h3 : (2 : Nat) ^ 24 = 16777216 := by decide
  rw [h3] at h2
  have h0 := Nat.two_pow_add_eq_or_of_lt hx c
  rw [pow_cast]
  generalize 2 ^ s = q at *
  have h1 : c * q ≤ 255 * q := Nat.mul_le_mul_right _ (by omega)
  have e : ((c : Int) % 4294967296 * (q : Int) % 4294967296) = ((c * q : Nat) : Int) := by
    rw [Int.emod_eq_of_lt (a := (c : Int)) (by omega) (by omega), ← Int.natCast_mul]
    exact Int.emod_eq_of_lt (Int.natCast_nonneg _) (by omega)
  rw [e, u32_or_nat _ _ (by omega) (by omega)]
  rw [Nat.mul_comm] at h0
  rw [Nat.or_comm, ← h0, Nat.add_comm]
theorem ld_succ (f : Nat → Nat) (a j : Nat) (hj : j < 4) (h : ∀ x, f x < 256) :
    Go.bits .or .u32 (ld f a j : Int) ((f ((a + j) % 4294967296) : Int) % 4294967296 * 2 ^ (8 * j) % 4294967296) = (ld f a (j + 1) : Int) := by
  have e : 256 ^ j = 2 ^ (8 * j) := by rw [Nat.pow_mul]
  rw [or_put _ _ _ (by rw [← e]; exact ld_lt f a j h) (h _) (by omega), ← e]
  rfl
set_option maxHeartbeats 800000 in
theorem Load_calls (p b n : Nat) (f : Nat → Nat) (a k : Nat) (w : World) (h : MemAt w p b n f) (ha : a < 4294967296) (hk : k = 1 ∨ k = 2 ∨ k = 4) :
    Calls Try.prog 16 #[.pointer (some ⟨p, 0, none⟩), .int .u32 (a : Int), .int .i64 (k : Int)] w fun e w' => e = .returned (.tuple #[.int .u32 (ld f a k : Int), .int .i64 0]) ∧ w = w' := by
  have hcell := h.cell
  have hm := h.map
  have hf := Lib.hid h.map.2.1
  clear h
  have hd : decide ((k : Int) = 1 ∨ (k : Int) = 2 ∨ (k : Int) = 4) = true := decide_eq_true (by omega)
  have hk4 : k ≤ 4 := by omega
  go_enter Try.func16, Try.ntmps16
  go_wp2_with (go_at_call 23; refine (sized_calls _ _).mono ?_; rintro e w' ⟨rfl, rfl⟩)
  go_loop [8, 14] (fun v i => ∃ j : Nat, j ≤ k ∧ i = .int .i64 j ∧ v = .int .u32 (ld f a j : Int)) (fun _ i => k - (intOf i).toNat)
  case atStart => exact ⟨0, Nat.zero_le _, rfl, rfl⟩
  case round =>
    obtain ⟨j, hj, rfl, rfl⟩ := hrel
    by_cases hlt : j < k
    · go_wp2_with (at_lookup; refine wp_look rfl _ _ rfl b n f rfl hm ((a + j) % 4294967296) (Nat.mod_lt _ (by decide)) ?hx ?_)
      exact ⟨⟨j + 1, hlt, by go_num, by rw [ld_succ f a j (by omega) hf.out]⟩, by simp [intOf]; omega⟩
    · obtain rfl : j = k := by omega
      go_wp2
      go_ret2
      exact ⟨rfl, rfl⟩
theorem Load_not (p : Option Addr) (a : Nat) (k : Int) (w : World) (hk : ¬ (k = 1 ∨ k = 2 ∨ k = 4)) :
    Calls Try.prog 16 #[.pointer p, .int .u32 (a : Int), .int .i64 k] w fun e w' => e = .returned (.tuple #[.int .u32 0, .int .i64 1]) ∧ w = w' := by
  have hd : decide (k = 1 ∨ k = 2 ∨ k = 4) = false := decide_eq_false hk
  clear hk
  go_enter Try.func16, Try.ntmps16
  go_wp2_with (go_at_call 23; refine (sized_calls _ _).mono ?_; rintro e w' ⟨rfl, rfl⟩)
  go_ret2
  exact ⟨rfl, rfl⟩
/-- j bytes put from address a on. -/
def putn (g : Nat → Nat) (a : Nat) (c : Nat → Nat) : Nat → Nat → Nat
  | 0 => g
  | j + 1 => upd (putn g a c j) ((a + j) % 4294967296) (c j)
theorem grown_refl (w : World) (row : Option Nat) : w.grownBy w row := ⟨rfl, rfl, rfl, Nat.le_refl _, fun _ _ _ => rfl⟩
theorem set_at (p b n : Nat) (f : Nat → Nat) (a c : Nat) (A C : Int) (w : World) (hA : A = (a : Int)) (hC : C = (c : Int)) (h : MemAt w p b n f) (hn : n < 1000000000) (ha : a < 4294967296) (hc : c < 256) :
    Calls Try.prog 24 #[.pointer (some ⟨p, 0, none⟩), .int .u32 A, .int .u8 C] w fun e w' => e = .returned (.tuple #[]) ∧ MemAt w' p b (n + 1) (upd f a c) ∧ w.grownBy w' (some b) := by
  subst hA hC
  exact set_calls p b n f a c w h hn ha hc
theorem byte_at (v j : Nat) : ((v : Int) / 2 ^ (8 * j)) % 256 = ((v / 256 ^ j % 256 : Nat) : Int) := by
  rw [pow_cast, show 2 ^ (8 * j) = 256 ^ j by rw [Nat.pow_mul]]
  omega
theorem addr_at (a j : Nat) : ((a : Int) + (j : Int)) % 4294967296 = (((a + j) % 4294967296 : Nat) : Int) := by omega
set_option maxHeartbeats 800000 in
theorem Store_calls (p b n : Nat) (f : Nat → Nat) (a k v : Nat) (w : World) (h : MemAt w p b n f) (hn : n < 900000000) (ha : a < 4294967296) (hv : v < 4294967296) (hk : k = 1 ∨ k = 2 ∨ k = 4) :
    Calls Try.prog 10 #[.pointer (some ⟨p, 0, none⟩), .int .u32 (a : Int), .int .i64 (k : Int), .int .u32 (v : Int)] w fun e w' => e = .returned (.int .i64 0) ∧ MemAt w' p b (n + k) (putn f a (fun j => v / 256 ^ j % 256) k) ∧ w.grownBy w' (some b) := by
  have HM := Lib.hid h
  clear h
  have hd : decide ((k : Int) = 1 ∨ (k : Int) = 2 ∨ (k : Int) = 4) = true := decide_eq_true (by omega)
  have hk4 : k ≤ 4 := by omega
  go_enter Try.func10, Try.ntmps10
  go_wp2_with (go_at_call 23; refine (sized_calls _ _).mono ?_; rintro e w' ⟨rfl, rfl⟩)
  go_loopw [14] (fun i wr => ∃ j : Nat, j ≤ k ∧ i = .int .i64 j ∧ MemAt wr p b (n + j) (putn f a (fun j => v / 256 ^ j % 256) j) ∧ w.grownBy wr (some b)) (fun i _ => k - (intOf i).toNat)
  case atStart => exact ⟨0, Nat.zero_le _, rfl, HM.out, grown_refl _ _⟩
  case round =>
    obtain ⟨j, hj, rfl, hM, hG⟩ := hrel
    have HM2 := Lib.hid hM
    have HG := Lib.hid hG
    clear hM hG
    by_cases hlt : j < k
    · go_wp2_with (go_at_call 24; with_reducible refine (set_at p b (n + j) _ ((a + j) % 4294967296) (v / 256 ^ j % 256) _ _ _ (addr_at a j) (byte_at v j) HM2.out (by omega) (Nat.mod_lt _ (by decide)) (Nat.mod_lt _ (by decide))).mono ?_; rintro e w2 ⟨rfl, hM2, hg2⟩)
      go_roundw
      case rel => exact ⟨j + 1, hlt, by go_num, hM2, HG.out.trans hg2⟩
      case measure => simp [intOf]; omega
    · obtain rfl : j = k := by omega
      go_wp2
      go_ret
      exact ⟨rfl, HM2.out, HG.out⟩
theorem Store_not (p : Option Addr) (a : Nat) (k v : Int) (w : World) (hk : ¬ (k = 1 ∨ k = 2 ∨ k = 4)) :
    Calls Try.prog 10 #[.pointer p, .int .u32 (a : Int), .int .i64 k, .int .u32 v] w fun e w' => e = .returned (.int .i64 1) ∧ w = w' := by
  have hd : decide (k = 1 ∨ k = 2 ∨ k = 4) = false := decide_eq_false hk
  clear hk
  go_enter Try.func10, Try.ntmps10
  go_wp2_with (go_at_call 23; refine (sized_calls _ _).mono ?_; rintro e w' ⟨rfl, rfl⟩)
  go_ret
  exact ⟨rfl, rfl⟩
/-- A text's byte. -/
def bt (s : ByteArray) (j : Nat) : Nat := (s.data.getD j 0).toNat
theorem bt_get (s : ByteArray) (j : Nat) (h : j < s.size) : s[j].toNat = bt s j := by
  unfold bt
  rw [Array.getD_eq_getD_getElem?, Array.getElem?_eq_getElem h]
  rfl
theorem bt_lt (s : ByteArray) (j : Nat) : bt s j < 256 := UInt8.toNat_lt _
set_option maxHeartbeats 800000 in
theorem Put_calls (p b n : Nat) (f : Nat → Nat) (a : Nat) (s : ByteArray) (w : World) (h : MemAt w p b n f) (hn : n + s.size < 900000000) (ha : a < 4294967296) :
    Calls Try.prog 14 #[.pointer (some ⟨p, 0, none⟩), .int .u32 (a : Int), .string s] w fun e w' => e = .returned (.tuple #[]) ∧ MemAt w' p b (n + s.size) (putn f a (bt s) s.size) ∧ w.grownBy w' (some b) := by
  have HM := Lib.hid h
  clear h
  have hs : s.size ≤ 9223372036854775807 := by omega
  go_enter Try.func14, Try.ntmps14
  go_wp2
  go_loopw [9] (fun i wr => ∃ j : Nat, j ≤ s.size ∧ i = .int .i64 j ∧ MemAt wr p b (n + j) (putn f a (bt s) j) ∧ w.grownBy wr (some b)) (fun i _ => s.size - (intOf i).toNat)
  case atStart => exact ⟨0, Nat.zero_le _, rfl, HM.out, grown_refl _ _⟩
  case round =>
    obtain ⟨j, hj, rfl, hM, hG⟩ := hrel
    have HM2 := Lib.hid hM
    have HG := Lib.hid hG
    clear hM hG
    by_cases hlt : j < s.size
    · have hb : ((s[j].toNat : Nat) : Int) = (bt s j : Int) := by rw [bt_get s j hlt]
      go_wp2_with (go_at_call 24; with_reducible refine (set_at p b (n + j) _ ((a + j) % 4294967296) (bt s j) _ _ _ (addr_at a j) rfl HM2.out (by omega) (Nat.mod_lt _ (by decide)) (bt_lt s j)).mono ?_; rintro e w2 ⟨rfl, hM2, hg2⟩)
      go_roundw
      case rel => exact ⟨j + 1, hlt, by go_num, hM2, HG.out.trans hg2⟩
      case measure => simp [intOf]; omega
    · obtain rfl : j = s.size := by omega
      go_wp2
      go_end0
      exact ⟨rfl, HM2.out, HG.out⟩
/-! ## Bytes, Copy, New -/
def nth (f : Nat → Nat) (a i : Nat) : Nat := f ((a + i) % 4294967296)
/-- k bytes from address a on, as a text. -/
def strB (f : Nat → Nat) (a k : Nat) : ByteArray := strOfNums ((List.range k).map (fun i => (nth f a i : Int)))
def rowB (f : Nat → Nat) (a k j : Nat) : List Value := (List.range k).map (fun i => Value.int .u8 (if i < j then (nth f a i : Int) else 0))
theorem rowB_set (f : Nat → Nat) (a k j : Nat) : (rowB f a k j).set j (.int .u8 (nth f a j)) = rowB f a k (j + 1) := by
  apply List.ext_getElem?
  intro i
  unfold rowB
  rw [List.getElem?_set]
  by_cases h : j = i
  · subst h
    rw [if_pos rfl]
    by_cases h2 : j < k
    · simp [h2]
    · simp [h2]
  · rw [if_neg h]
    by_cases h2 : i < k
    · simp only [List.getElem?_map, List.getElem?_range h2, Option.map_some]
      congr 2
      by_cases h3 : i < j
      · rw [if_pos h3, if_pos (by omega)]
      · rw [if_neg h3, if_neg (by omega)]
    · simp [List.getElem?_eq_none, h2]
theorem rowB_zero (f : Nat → Nat) (a k : Nat) : (madeCells (Value.int .u8 0).cells (k * 1)).toList = rowB f a k 0 := by
  apply List.ext_getElem?
  intro i
  by_cases h : i < k
  · simp [rowB, madeCells, h, Value.cells, Nat.mod_one]
  · simp [rowB, madeCells, h]
theorem info8 : (Try.prog.info? 5).map (fun i => (i.zero, i.size, i.bytes)) = some (some (.int .u8 0), 1, 1) := by kernel_rfl
theorem Bytes_neg (p : Option Addr) (a : Nat) (k : Int) (w : World) (hk : k < 1) :
    Calls Try.prog 15 #[.pointer p, .int .u32 (a : Int), .int .i64 k] w fun e w' => e = .returned (.string ByteArray.empty) ∧ w = w' := by
  go_enter Try.func15, Try.ntmps15
  go_wp2
  go_ret
  exact ⟨rfl, rfl⟩
theorem conv_row (f : Nat → Nat) (a k : Nat) (g cap base : Nat) (w : World) (h : w.ownsRow base 5 1 (.slice (some ⟨g, 0, none⟩) k cap) k (rowB f a k k)) :
    (convert 43 9 (.slice (some ⟨g, 0, none⟩) k cap)).run Try.prog w = .ok (.string (strB f a k)) w := by
  refine run_convert_bytes_arg w 43 5 Try.underlying43 Try.underlying5 g 0 k cap ((List.range k).map (fun i => (nth f a i : Int))) (by simp) (fun i hi => ?_) 9 Try.underlying9
  rw [Nat.zero_add, h.cellAt i (by omega)]
  simp [rowB, hi]
set_option maxHeartbeats 1600000 in
theorem Bytes_calls (p b n : Nat) (f : Nat → Nat) (a k : Nat) (w : World) (h : MemAt w p b n f) (ha : a < 4294967296) (hk : 1 ≤ k) (hk2 : k < 1000000000) :
    Calls Try.prog 15 #[.pointer (some ⟨p, 0, none⟩), .int .u32 (a : Int), .int .i64 (k : Int)] w fun e w' => e = .returned (.string (strB f a k)) ∧ Below w.heap.size w w' := by
  have HM := Lib.hid h
  clear h
  obtain ⟨i0, hi, hz0, hz1, hz2⟩ := info_parts info8
  go_enter Try.func15, Try.ntmps15
  go_wp2_with (at_make; refine wpList_make_full _ rfl _ _ _ rfl w.heap.size 5 i0 (.int .u8 0) 1 Try.underlying43 hi hz0 hz1 .i64 .i64 _ _ k rfl rfl rfl rfl (by rw [hz2]; omega) (by unfold maxLen; omega) (Nat.le_refl _) ?_; intro w1 hown1 hg1)
  have HO1 := Lib.hid hown1
  have HG1 := Lib.hid hg1
  clear hown1 hg1
  have hsz : w.heap.size ≤ w.heap.size := Nat.le_refl _
  go_loopw [15] (fun i wr => ∃ j : Nat, j ≤ k ∧ i = .int .i64 j ∧ wr.ownsRow w.heap.size 5 1 (.slice (some ⟨w.heap.size, 0, none⟩) k k) k (rowB f a k j) ∧ Below w.heap.size w wr) (fun i _ => k - (intOf i).toNat)
  case atStart => exact ⟨0, Nat.zero_le _, rfl, by rw [← rowB_zero]; exact HO1.out, (Below.refl _ w).grown HG1.out (Nat.le_refl _) (fun j hj => by cases hj)⟩
  case round =>
    obtain ⟨j, hj, rfl, hO, hB⟩ := hrel
    by_cases hlt : j < k
    · have hc : wr.cell? ⟨w.heap.size, j, none⟩ = some (.int .u8 0) := by
        rw [hO.cellAt j (by omega)]; simp [rowB, hlt]
      have hf := hO.frozenAt j
      have hcell : wr.cell? ⟨p, 0, none⟩ = some (.map (some b)) := (hB.cell (p := ⟨p, 0, none⟩) HM.out.lt).trans HM.out.cell
      have hm : MapAt wr b n f := by
        obtain ⟨⟨D, ho, hD⟩, h2⟩ := HM.out.map
        obtain ⟨es, clock, hb, rest⟩ := ho
        exact ⟨⟨D, ⟨es, clock, (hB.block b HM.out.map.lt).trans hb, rest⟩, hD⟩, h2⟩
      have HO := Lib.hid hO
      have HB := Lib.hid hB
      clear hO hB
      go_wp2_with (at_lookup; refine wp_look rfl _ _ rfl b n f rfl hm ((a + j) % 4294967296) (Nat.mod_lt _ (by decide)) ?hx ?_)
      case hx => exact congrArg (Value.int .u32) (addr_at a j)
      go_roundw
      case rel =>
        obtain ⟨s1, s2⟩ := HO.out.stored j (.int .u8 (nth f a j))
        rw [rowB_set] at s1
        exact ⟨j + 1, hlt, by go_num, s1, HB.out.grown s2 HB.out.size (fun q hq => by cases hq; exact Nat.le_refl _)⟩
      case measure => simp [intOf]; omega
    · obtain rfl : j = k := by omega
      have hcv := conv_row f a j _ _ _ _ hO
      have HB := Lib.hid hB
      clear hB hO
      go_wp2
      go_ret
      exact ⟨rfl, HB.out⟩
/-! ### New, Copy -/
theorem zero_map (w : World) : MapAt (w.alloc (.map #[] 0)) w.heap.size 0 (fun _ => 0) :=
  ⟨⟨.map [], World.ownsMap_made _ _ _ _, fun a _ => ⟨rfl, by simp [Maps.has]⟩⟩, fun _ => Nat.zero_lt_succ _, fun _ _ => rfl⟩
theorem MapAt.alloc {w : World} {b n : Nat} {f : Nat → Nat} (h : MapAt w b n f) (o : Obj) : MapAt (w.alloc o) b n f := h.kept (World.grownBy_alloc w o none) (by simp)
theorem MemAt.alloc {w : World} {p b n : Nat} {f : Nat → Nat} (h : MemAt w p b n f) (o : Obj) : MemAt (w.alloc o) p b n f := h.kept (World.grownBy_alloc w o none) (by simp) (by simp)
theorem MemAt.made {w : World} {b n : Nat} {f : Nat → Nat} (h : MapAt w b n f) : MemAt (w.alloc (.cells #[.map (some b)] 53)) w.heap.size b n f :=
  ⟨World.alloc_heap_new _ _, h.alloc _⟩
theorem New_calls (w : World) : Calls Try.prog 9 #[] w fun e w' => e = .returned (.pointer (some ⟨w.heap.size + 1, 0, none⟩)) ∧ MemAt w' (w.heap.size + 1) w.heap.size 0 (fun _ => 0) ∧ w.grownBy w' none := by
  have hmm := @run_makeMap Try.prog
  go_enter Try.func9, Try.ntmps9
  go_wp2
  go_ret
  have := MemAt.made (zero_map w)
  rw [World.size_alloc] at this
  exact ⟨rfl, this, (World.grownBy_alloc w _ none).trans (World.grownBy_alloc _ _ none)⟩
theorem Copy_calls (p b n : Nat) (f : Nat → Nat) (w : World) (h : MemAt w p b n f) :
    Calls Try.prog 22 #[.pointer (some ⟨p, 0, none⟩)] w fun e w' => e = .returned (.pointer (some ⟨w.heap.size + 1, 0, none⟩)) ∧ MemAt w' (w.heap.size + 1) w.heap.size n f ∧ MemAt w' p b n f ∧ w.grownBy w' none := by
  have HM := Lib.hid h
  have hcell := h.cell
  obtain ⟨⟨D, ho, hD⟩, hf⟩ := h.map
  have HD := Lib.hid hD
  have HO := Lib.hid ho
  have HF := Lib.hid hf
  clear h hD ho hf
  go_enter Try.func22, Try.ntmps22
  go_wp2_with (go_at_call 29; refine (It.cloneU _ _ b n D w HO.out).mono ?_; rintro e w1 ⟨rfl, h1, h2, o, rfl⟩)
  go_ret
  have := MemAt.made (w := w.alloc o) ⟨⟨D, h1, HD.out⟩, HF.out⟩
  rw [World.size_alloc] at this
  exact ⟨rfl, this, (HM.out.alloc o).alloc _, (World.grownBy_alloc w _ none).trans (World.grownBy_alloc _ _ none)⟩
end Go.Proofs.Ytoaifpiiofpdaaa.Mm
