import Derived.Test.YtononmcodecmaaaJIT
import Derived.WalkKit
import Derived.KernelRfl
import Derived.Below
import Derived.Outline
import Derived.LoopTactic
import Derived.Maps.Own
import Derived.Maps.OwnOps
import Derived.Maps.OwnSet
import Derived.Maps.Views
import Derived.Maps.AppendAt
import Derived.Laws.BitsLemmas
import Derived.Laws.BitsAllLaws
import Derived.Deep.LoopGhost
import Derived.Lib.Hide
import Derived.RangeFuncBox
import Derived.OwnWalk
import Derived.Laws.OwnMore
import Derived.Laws.BytesArg
import Derived.Laws.MakeOwn
import Derived.Deep.QuietTactic
import Derived.BigQuiet
import Derived.Deep.Draws
import Derived.Laws.StructEq
import Derived.WalkSmall
section
namespace Go.Proofs.Ytononmcodecmaaa.Mm
set_option maxRecDepth 100000
open Go.RowKit Go.Maps Go.Proofs
set_option linter.unusedVariables false
set_option linter.unusedSimpArgs false
def KU (a : Nat) : Lit := .int .u32 (a : Int)
def MapAt (w : World) (b n : Nat) (f : Nat → Nat) : Prop :=
 (∃ D : DataW Unit, w.ownsMap Try.prog 22 (plainElem Try.prog 5) b n D ∧ (∀ a, a < 4294967296 → D.atKey (KU a) (.lit (.int .u8 0)) = .lit (.int .u8 (f a : Int)) ∧ Maps.has D (KU a) = decide (f a ≠ 0))) ∧ (∀ a, f a < 256) ∧ (∀ a, 4294967296 ≤ a → f a = 0)
structure MemAt (w : World) (p b n : Nat) (f : Nat → Nat) : Prop where
 ptr : w.heap[p]? = some (.cells #[.map (some b)] 75 (0, 0))
 map : MapAt w b n f
theorem law : Keyed Try.prog 22 := int_keyed Try.underlying22
theorem zeroE (w : World) : (zeroValue 5).run Try.prog w = .ok (.int .u8 0) w := by kernel_rfl
theorem key_wf (a : Nat) (h : a < 4294967296) : (Lit.int .u32 (a : Int)).wf = true := by
 exact WalkArith.wf_u32 ⟨by omega, by omega⟩
theorem MemAt.ne {w : World} {p b n : Nat} {f : Nat → Nat} (h : MemAt w p b n f) : p ≠ b := by
 intro e
 obtain ⟨⟨D, ho, _⟩, _⟩ := h.map
 obtain ⟨es, clock, hb, _⟩ := ho
 have := h.ptr
 rw [e, hb] at this
 cases this
theorem MemAt.cell {w : World} {p b n : Nat} {f : Nat → Nat} (h : MemAt w p b n f) : w.cell? ⟨p, 0, none⟩ = some (.map (some b)) := by
 simp [World.cell?, h.ptr]
theorem MapAt.kept {w w' : World} {b n : Nat} {f : Nat → Nat} {row : Option Nat} (h : MapAt w b n f) (hg : w.grownBy w' row) (hne : some b ≠ row) : MapAt w' b n f := by
 obtain ⟨⟨D, ho, hD⟩, h2⟩ := h
 exact ⟨⟨D, ho.kept hg hne, hD⟩, h2⟩
theorem MapAt.mono {w : World} {b n n' : Nat} {f : Nat → Nat} (h : MapAt w b n f) (hn : n ≤ n') : MapAt w b n' f := by
 obtain ⟨⟨D, ho, hD⟩, h2⟩ := h
 exact ⟨⟨D, ho.mono hn, hD⟩, h2⟩
theorem MapAt.lt {w : World} {b n : Nat} {f : Nat → Nat} (h : MapAt w b n f) : b < w.heap.size := by
 obtain ⟨⟨D, ho, hD⟩, h2⟩ := h
 exact ho.lt
theorem MemAt.lt {w : World} {p b n : Nat} {f : Nat → Nat} (h : MemAt w p b n f) : p < w.heap.size := (Array.getElem?_eq_some_iff.1 h.ptr).1
theorem MemAt.kept {w w' : World} {p b n : Nat} {f : Nat → Nat} {row : Option Nat} (h : MemAt w p b n f) (hg : w.grownBy w' row) (hb : some b ≠ row) (hp : some p ≠ row) : MemAt w' p b n f :=
 ⟨(hg.block p h.lt hp).trans h.ptr, h.map.kept hg hb⟩
theorem MemAt.mono {w : World} {p b n n' : Nat} {f : Nat → Nat} (h : MemAt w p b n f) (hn : n ≤ n') : MemAt w p b n' f := ⟨h.ptr, h.map.mono hn⟩
def upd (f : Nat → Nat) (a c : Nat) : Nat → Nat := fun x => if x = a then c else f x
theorem KU_key (a : Nat) (h : a < 4294967296) : keyOf Try.prog 22 (.int .u32 (a : Int)) = some (KU a) := Maps.keyOf_int_mk Try.underlying22 (key_wf a h)
theorem KU_ne {a x : Nat} (h : x ≠ a) : KU x ≠ KU a := fun e => h (by simp [KU] at e; omega)
theorem isKey_KU (a : Nat) (h : a < 4294967296) : WideAt.IsKeyLit (KU a) := by
 trivial
theorem wp_look {w : World} {ops : Array Oper} {rest : List Oper} {o : Oper} {ac : Act} {Q : Exit → Act → World → Prop} (hg : o.guard = none) (m x : Operand) (hop : o.op = Op.lookup 73 m x false)
  (b n : Nat) (f : Nat → Nat) (hm : ac.eval m = .map (some b)) (h : MapAt w b n f) (k : Nat) (hk : k < 4294967296) (hx : ac.eval x = .int .u32 (k : Int)) (hK : wpList Try.prog ops Q rest (ac.put o.dst (.int .u8 (f k : Int))) w) : wpList Try.prog ops Q (o :: rest) ac w := by
 obtain ⟨⟨D, ho, hD⟩, _⟩ := h
 refine wpList_lookup_own_int w hg m x _ hop 22 5 .u8 law Try.underlying73 Try.underlying5 (zeroE _) b n D hm ho _ (KU k) hx (KU_key k hk) ?_
 intro c hc _
 rw [(hD k hk).1] at hc
 have : c = (f k : Int) := by simpa using hc.symm
 rw [this]
 exact hK
theorem wp_put {w : World} {ops : Array Oper} {rest : List Oper} {o : Oper} {ac : Act} {Q : Exit → Act → World → Prop} (hg : o.guard = none) (m x v : Operand) (hop : o.op = Op.mapUpdate 73 m x v)
  (b n : Nat) (f : Nat → Nat) (hm : ac.eval m = .map (some b)) (h : MapAt w b n f) (hn : n < maxLen) (k c : Nat) (hk : k < 4294967296) (hc : c < 256) (hc0 : c ≠ 0) (hx : ac.eval x = .int .u32 (k : Int)) (hv : ac.eval v = .int .u8 (c : Int))
  (hK : ∀ w', MapAt w' b (n + 1) (upd f k c) → w.grownBy w' (some b) → wpList Try.prog ops Q rest (ac.put o.dst undef) w') : wpList Try.prog ops Q (o :: rest) ac w := by
 obtain ⟨⟨D, ho, hD⟩, h1, h2⟩ := h
 refine wpList_mapUpdate_own w hg m x v _ hop 22 5 law Try.underlying73 _ b n D hm ho hn _ _ (KU k) hx hv (KU_key k hk) _ [] (plainElem_int Try.underlying5 (WalkArith.wf_u8 ⟨by omega, by omega⟩)) ?_
 intro w' ho' hgr
 refine hK w' ⟨⟨_, ho', fun a ha => ?_⟩, fun a => ?_, fun a ha => ?_⟩ hgr
 ·by_cases e : a = k
  ·subst e
   rw [atKey_put_same ho.isMap (isKey_KU a ha), has_put_same ho.isMap (isKey_KU a ha)]
   simp [upd, hc0]
  ·rw [atKey_put_other (KU_ne e), has_put_other (KU_ne e)]
   simp only [upd, if_neg e]
   exact hD a ha
 ·unfold upd; split
  ·exact hc
  ·exact h1 a
 ·unfold upd; rw [if_neg (by omega)]; exact h2 a ha
theorem wp_del {w : World} {ops : Array Oper} {rest : List Oper} {o : Oper} {ac : Act} {Q : Exit → Act → World → Prop} (hg : o.guard = none) (m x : Operand) (hop : o.op = Op.call { callee := Callee.builtin Builtin.delete, args := #[m, x], argTypes := #[73, 22] })
  (b n : Nat) (f : Nat → Nat) (hm : ac.eval m = .map (some b)) (h : MapAt w b n f) (k : Nat) (hk : k < 4294967296) (hx : ac.eval x = .int .u32 (k : Int))
  (hK : ∀ w', MapAt w' b (n + 1) (upd f k 0) → w.grownBy w' (some b) → wpList Try.prog ops Q rest (ac.put o.dst (.tuple #[])) w') : wpList Try.prog ops Q (o :: rest) ac w := by
 obtain ⟨⟨D, ho, hD⟩, h1, h2⟩ := h
 refine wpList_delete_own w hg m x _ 22 hop 5 law Try.underlying73 _ b n D hm ho _ (KU k) hx (KU_key k hk) ?_
 intro w' ho' ht
 refine hK w' ⟨⟨_, ho'.mono (Nat.le_succ n), fun a ha => ?_⟩, fun a => ?_, fun a ha => ?_⟩ ht.grown
 ·by_cases e : a = k
  ·subst e
   rw [atKey_del_same, has_del_same]
   simp [upd]
  ·rw [atKey_del_other (KU_ne e), has_del_other (KU_ne e)]
   simp only [upd, if_neg e]
   exact hD a ha
 ·unfold upd; split
  ·omega
  ·exact h1 a
 ·unfold upd; split
  ·rfl
  ·exact h2 a ha
theorem sized_calls (n : Int) (w : World) : Calls Try.prog 46 #[.int .i64 n] w fun e w' => e = .returned (.bool (decide (n = 1 ∨ n = 2 ∨ n = 4))) ∧ w = w' := by
 by_cases h1 : n = 1
 ·subst h1
  go_enter Try.func46, Try.ntmps46
  go_wp2
  go_ret
  exact ⟨by simp, rfl⟩
 have b1 : (n == 1) = false := beq_eq_false_iff_ne.mpr h1
 by_cases h2 : n = 2
 ·subst h2
  go_enter Try.func46, Try.ntmps46
  go_wp2
  go_ret
  exact ⟨by simp, rfl⟩
 have b2 : (n == 2) = false := beq_eq_false_iff_ne.mpr h2
 by_cases h4 : n = 4
 ·subst h4
  go_enter Try.func46, Try.ntmps46
  go_wp2
  go_ret
  exact ⟨by simp, rfl⟩
 have b4 : (n == 4) = false := beq_eq_false_iff_ne.mpr h4
 rw [show decide (n = 1 ∨ n = 2 ∨ n = 4) = false from decide_eq_false (by omega)]
 clear h1 h2 h4
 go_enter Try.func46, Try.ntmps46
 go_wp2
 go_ret
 exact ⟨rfl, rfl⟩
theorem set_calls (p b n : Nat) (f : Nat → Nat) (a c : Nat) (w : World) (h : MemAt w p b n f) (hn : n < 1000000000) (ha : a < 4294967296) (hc : c < 256) :
  Calls Try.prog 47 #[.pointer (some ⟨p, 0, none⟩), .int .u32 (a : Int), .int .u8 (c : Int)] w fun e w' => e = .returned (.tuple #[]) ∧ MemAt w' p b (n + 1) (upd f a c) ∧ w.grownBy w' (some b) := by
 have hne := h.ne
 have hcell := h.cell
 have hm := h.map
 have HH := Lib.hid h
 clear h
 by_cases h0 : c = 0
 ·have hb : ((c : Int) == 0) = true := beq_iff_eq.mpr (by omega)
  go_enter Try.func47, Try.ntmps47
  go_wp2_with (at_delete; refine wp_del rfl _ _ rfl b n f rfl hm a ha rfl ?_; intro w1 hm1 hg1)
  refine bodyPost_ret (results_none rfl _ _ _) rfl ?_
  rw [h0]
  exact ⟨rfl, ⟨(hg1.block p HH.out.lt (fun e => hne (by cases e; rfl))).trans HH.out.ptr, hm1⟩, hg1⟩
 ·have hb : ((c : Int) == 0) = false := beq_eq_false_iff_ne.mpr (by omega)
  go_enter Try.func47, Try.ntmps47
  go_wp2_with (at_mapUpdate; refine wp_put rfl _ _ _ rfl b n f rfl hm (by unfold maxLen; omega) a c ha hc h0 rfl rfl ?_; intro w1 hm1 hg1)
  go_end0
  exact ⟨rfl, ⟨(hg1.block p HH.out.lt (fun e => hne (by cases e; rfl))).trans HH.out.ptr, hm1⟩, hg1⟩
def ld (f : Nat → Nat) (a : Nat) : Nat → Nat
 | 0 => 0
 | k + 1 => ld f a k + f ((a + k) % 4294967296) * 256 ^ k
theorem ld_lt (f : Nat → Nat) (a k : Nat) (h : ∀ x, f x < 256) : ld f a k < 256 ^ k := by
 induction k with
 | zero => simp [ld]
 | succ k ih =>
  have := h ((a + k) % 4294967296)
  have e : 256 ^ (k + 1) = 256 ^ k * 256 := Nat.pow_succ _ _
  have e2 : f ((a + k) % 4294967296) * 256 ^ k ≤ 255 * 256 ^ k := Nat.mul_le_mul_right _ (by omega)
  show ld f a k + f ((a + k) % 4294967296) * 256 ^ k < _
  omega
theorem pow_cast (s : Nat) : ((2 : Int) ^ s) = ((2 ^ s : Nat) : Int) := by push_cast; rfl
theorem or_put (x c s : Nat) (hx : x < 2 ^ s) (hc : c < 256) (hs : s ≤ 24) : Go.bits .or .u32 (x : Int) ((c : Int) % 4294967296 * 2 ^ s % 4294967296) = ((x + c * 2 ^ s : Nat) : Int) := by
 have h2 : 2 ^ s ≤ 2 ^ 24 := Nat.pow_le_pow_right (by decide) hs
 have h3 : (2 : Nat) ^ 24 = 16777216 := by decide
 rw [h3] at h2
 have h0 := Nat.two_pow_add_eq_or_of_lt hx c
 rw [pow_cast]
 generalize 2 ^ s = q at *
 have h1 : c * q ≤ 255 * q := Nat.mul_le_mul_right _ (by omega)
 have e : ((c : Int) % 4294967296 * (q : Int) % 4294967296) = ((c * q : Nat) : Int) := by
  rw [Int.emod_eq_of_lt (a := (c : Int)) (by omega) (by omega), ← Int.natCast_mul]
  exact Int.emod_eq_of_lt (Int.natCast_nonneg _) (by omega)
 rw [e, u32_or_nat _ _ (by omega) (by omega)]
 rw [Nat.mul_comm] at h0
 rw [Nat.or_comm, ← h0, Nat.add_comm]
theorem ld_succ (f : Nat → Nat) (a j : Nat) (hj : j < 4) (h : ∀ x, f x < 256) :
  Go.bits .or .u32 (ld f a j : Int) ((f ((a + j) % 4294967296) : Int) % 4294967296 * 2 ^ (8 * j) % 4294967296) = (ld f a (j + 1) : Int) := by
 have e : 256 ^ j = 2 ^ (8 * j) := by rw [Nat.pow_mul]
 rw [or_put _ _ _ (by rw [← e]; exact ld_lt f a j h) (h _) (by omega), ← e]
 rfl
set_option maxHeartbeats 800000 in
theorem Load_calls (p b n : Nat) (f : Nat → Nat) (a k : Nat) (w : World) (h : MemAt w p b n f) (ha : a < 4294967296) (hk : k = 1 ∨ k = 2 ∨ k = 4) :
  Calls Try.prog 35 #[.pointer (some ⟨p, 0, none⟩), .int .u32 (a : Int), .int .i64 (k : Int)] w fun e w' => e = .returned (.tuple #[.int .u32 (ld f a k : Int), .int .i64 0]) ∧ w = w' := by
 have hcell := h.cell
 have hm := h.map
 have hf := Lib.hid h.map.2.1
 clear h
 have hd : decide ((k : Int) = 1 ∨ (k : Int) = 2 ∨ (k : Int) = 4) = true := decide_eq_true (by omega)
 have hk4 : k ≤ 4 := by omega
 go_enter Try.func35, Try.ntmps35
 go_wp2_with (go_at_call 46; refine (sized_calls _ _).mono ?_; rintro e w' ⟨rfl, rfl⟩)
 go_loop [8, 14] (fun v i => ∃ j : Nat, j ≤ k ∧ i = .int .i64 j ∧ v = .int .u32 (ld f a j : Int)) (fun _ i => k - (intOf i).toNat)
 case atStart => exact ⟨0, Nat.zero_le _, rfl, rfl⟩
 case round =>
  obtain ⟨j, hj, rfl, rfl⟩ := hrel
  by_cases hlt : j < k
  ·go_wp2_with (at_lookup; refine wp_look rfl _ _ rfl b n f rfl hm ((a + j) % 4294967296) (Nat.mod_lt _ (by decide)) ?hx ?_)
   exact ⟨⟨j + 1, hlt, by go_num, by rw [ld_succ f a j (by omega) hf.out]⟩, by simp [intOf]; omega⟩
  ·obtain rfl : j = k := by omega
   go_wp2
   go_ret2
   exact ⟨rfl, rfl⟩
def putn (g : Nat → Nat) (a : Nat) (c : Nat → Nat) : Nat → Nat → Nat
 | 0 => g
 | j + 1 => upd (putn g a c j) ((a + j) % 4294967296) (c j)
theorem grown_refl (w : World) (row : Option Nat) : w.grownBy w row := ⟨rfl, rfl, rfl, Nat.le_refl _, fun _ _ _ => rfl⟩
theorem set_at (p b n : Nat) (f : Nat → Nat) (a c : Nat) (A C : Int) (w : World) (hA : A = (a : Int)) (hC : C = (c : Int)) (h : MemAt w p b n f) (hn : n < 1000000000) (ha : a < 4294967296) (hc : c < 256) :
  Calls Try.prog 47 #[.pointer (some ⟨p, 0, none⟩), .int .u32 A, .int .u8 C] w fun e w' => e = .returned (.tuple #[]) ∧ MemAt w' p b (n + 1) (upd f a c) ∧ w.grownBy w' (some b) := by
 subst hA hC
 exact set_calls p b n f a c w h hn ha hc
theorem byte_at (v j : Nat) : ((v : Int) / 2 ^ (8 * j)) % 256 = ((v / 256 ^ j % 256 : Nat) : Int) := by
 rw [pow_cast, show 2 ^ (8 * j) = 256 ^ j by rw [Nat.pow_mul]]
 omega
theorem addr_at (a j : Nat) : ((a : Int) + (j : Int)) % 4294967296 = (((a + j) % 4294967296 : Nat) : Int) := by omega
set_option maxHeartbeats 800000 in
theorem Store_calls (p b n : Nat) (f : Nat → Nat) (a k v : Nat) (w : World) (h : MemAt w p b n f) (hn : n < 900000000) (ha : a < 4294967296) (hv : v < 4294967296) (hk : k = 1 ∨ k = 2 ∨ k = 4) :
  Calls Try.prog 18 #[.pointer (some ⟨p, 0, none⟩), .int .u32 (a : Int), .int .i64 (k : Int), .int .u32 (v : Int)] w fun e w' => e = .returned (.int .i64 0) ∧ MemAt w' p b (n + k) (putn f a (fun j => v / 256 ^ j % 256) k) ∧ w.grownBy w' (some b) := by
 have HM := Lib.hid h
 clear h
 have hd : decide ((k : Int) = 1 ∨ (k : Int) = 2 ∨ (k : Int) = 4) = true := decide_eq_true (by omega)
 have hk4 : k ≤ 4 := by omega
 go_enter Try.func18, Try.ntmps18
 go_wp2_with (go_at_call 46; refine (sized_calls _ _).mono ?_; rintro e w' ⟨rfl, rfl⟩)
 go_loopw [14] (fun i wr => ∃ j : Nat, j ≤ k ∧ i = .int .i64 j ∧ MemAt wr p b (n + j) (putn f a (fun j => v / 256 ^ j % 256) j) ∧ w.grownBy wr (some b)) (fun i _ => k - (intOf i).toNat)
 case atStart => exact ⟨0, Nat.zero_le _, rfl, HM.out, grown_refl _ _⟩
 case round =>
  obtain ⟨j, hj, rfl, hM, hG⟩ := hrel
  have HM2 := Lib.hid hM
  have HG := Lib.hid hG
  clear hM hG
  by_cases hlt : j < k
  ·go_wp2_with (go_at_call 47; with_reducible refine (set_at p b (n + j) _ ((a + j) % 4294967296) (v / 256 ^ j % 256) _ _ _ (addr_at a j) (byte_at v j) HM2.out (by omega) (Nat.mod_lt _ (by decide)) (Nat.mod_lt _ (by decide))).mono ?_; rintro e w2 ⟨rfl, hM2, hg2⟩)
   go_roundw
   case rel => exact ⟨j + 1, hlt, by go_num, hM2, HG.out.trans hg2⟩
   case measure => simp [intOf]; omega
  ·obtain rfl : j = k := by omega
   go_wp2
   go_ret
   exact ⟨rfl, HM2.out, HG.out⟩
def bt (s : ByteArray) (j : Nat) : Nat := (s.data.getD j 0).toNat
theorem bt_get (s : ByteArray) (j : Nat) (h : j < s.size) : s[j].toNat = bt s j := by
 unfold bt
 rw [Array.getD_eq_getD_getElem?, Array.getElem?_eq_getElem h]
 rfl
theorem bt_lt (s : ByteArray) (j : Nat) : bt s j < 256 := UInt8.toNat_lt _
set_option maxHeartbeats 800000 in
theorem Put_calls (p b n : Nat) (f : Nat → Nat) (a : Nat) (s : ByteArray) (w : World) (h : MemAt w p b n f) (hn : n + s.size < 900000000) (ha : a < 4294967296) :
  Calls Try.prog 30 #[.pointer (some ⟨p, 0, none⟩), .int .u32 (a : Int), .string s] w fun e w' => e = .returned (.tuple #[]) ∧ MemAt w' p b (n + s.size) (putn f a (bt s) s.size) ∧ w.grownBy w' (some b) := by
 have HM := Lib.hid h
 clear h
 have hs : s.size ≤ 9223372036854775807 := by omega
 go_enter Try.func30, Try.ntmps30
 go_wp2
 go_loopw [9] (fun i wr => ∃ j : Nat, j ≤ s.size ∧ i = .int .i64 j ∧ MemAt wr p b (n + j) (putn f a (bt s) j) ∧ w.grownBy wr (some b)) (fun i _ => s.size - (intOf i).toNat)
 case atStart => exact ⟨0, Nat.zero_le _, rfl, HM.out, grown_refl _ _⟩
 case round =>
  obtain ⟨j, hj, rfl, hM, hG⟩ := hrel
  have HM2 := Lib.hid hM
  have HG := Lib.hid hG
  clear hM hG
  by_cases hlt : j < s.size
  ·have hb : ((s[j].toNat : Nat) : Int) = (bt s j : Int) := by rw [bt_get s j hlt]
   go_wp2_with (go_at_call 47; with_reducible refine (set_at p b (n + j) _ ((a + j) % 4294967296) (bt s j) _ _ _ (addr_at a j) rfl HM2.out (by omega) (Nat.mod_lt _ (by decide)) (bt_lt s j)).mono ?_; rintro e w2 ⟨rfl, hM2, hg2⟩)
   go_roundw
   case rel => exact ⟨j + 1, hlt, by go_num, hM2, HG.out.trans hg2⟩
   case measure => simp [intOf]; omega
  ·obtain rfl : j = s.size := by omega
   go_wp2
   go_end0
   exact ⟨rfl, HM2.out, HG.out⟩
def nth (f : Nat → Nat) (a i : Nat) : Nat := f ((a + i) % 4294967296)
def rowB (f : Nat → Nat) (a k j : Nat) : List Value := (List.range k).map (fun i => Value.int .u8 (if i < j then (nth f a i : Int) else 0))
theorem zero_map (w : World) : MapAt (w.alloc (.map #[] 0)) w.heap.size 0 (fun _ => 0) :=
 ⟨⟨.map [], World.ownsMap_made _ _ _ _, fun a _ => ⟨rfl, by simp [Maps.has]⟩⟩, fun _ => Nat.zero_lt_succ _, fun _ _ => rfl⟩
theorem MapAt.alloc {w : World} {b n : Nat} {f : Nat → Nat} (h : MapAt w b n f) (o : Obj) : MapAt (w.alloc o) b n f := h.kept (World.grownBy_alloc w o none) (by simp)
theorem MemAt.alloc {w : World} {p b n : Nat} {f : Nat → Nat} (h : MemAt w p b n f) (o : Obj) : MemAt (w.alloc o) p b n f := h.kept (World.grownBy_alloc w o none) (by simp) (by simp)
theorem MemAt.made {w : World} {b n : Nat} {f : Nat → Nat} (h : MapAt w b n f) : MemAt (w.alloc (.cells #[.map (some b)] 75)) w.heap.size b n f :=
 ⟨World.alloc_heap_new _ _, h.alloc _⟩
theorem New_calls (w : World) : Calls Try.prog 28 #[] w fun e w' => e = .returned (.pointer (some ⟨w.heap.size + 1, 0, none⟩)) ∧ MemAt w' (w.heap.size + 1) w.heap.size 0 (fun _ => 0) ∧ w.grownBy w' none := by
 have hmm := @run_makeMap Try.prog
 go_enter Try.func28, Try.ntmps28
 go_wp2
 go_ret
 have := MemAt.made (zero_map w)
 rw [World.size_alloc] at this
 exact ⟨rfl, this, (World.grownBy_alloc w _ none).trans (World.grownBy_alloc _ _ none)⟩
theorem Copy_calls (p b n : Nat) (f : Nat → Nat) (w : World) (h : MemAt w p b n f) :
  Calls Try.prog 19 #[.pointer (some ⟨p, 0, none⟩)] w fun e w' => e = .returned (.pointer (some ⟨w.heap.size + 1, 0, none⟩)) ∧ MemAt w' (w.heap.size + 1) w.heap.size n f ∧ MemAt w' p b n f ∧ w.grownBy w' none := by
 have HM := Lib.hid h
 have hcell := h.cell
 obtain ⟨⟨D, ho, hD⟩, hf⟩ := h.map
 have HD := Lib.hid hD
 have HO := Lib.hid ho
 have HF := Lib.hid hf
 clear h hD ho hf
 go_enter Try.func19, Try.ntmps19
 go_wp2_with (go_at_call 48; refine (It.cloneU _ _ b n D w HO.out).mono ?_; rintro e w1 ⟨rfl, h1, h2, o, rfl⟩)
 go_ret
 have := MemAt.made (w := w.alloc o) ⟨⟨D, h1, HD.out⟩, HF.out⟩
 rw [World.size_alloc] at this
 exact ⟨rfl, this, (HM.out.alloc o).alloc _, (World.grownBy_alloc w _ none).trans (World.grownBy_alloc _ _ none)⟩
end Go.Proofs.Ytononmcodecmaaa.Mm
end
section
namespace Go.Proofs.Ytononmcodecmaaa.Mm
set_option maxRecDepth 100000
open Go.RowKit Go.Maps Go.Proofs
set_option linter.unusedVariables false
set_option linter.unusedSimpArgs false
def cv (l : List (Nat × Nat)) : List Value := l.flatMap fun x => [.int .u32 (x.1 : Int), .int .u8 (x.2 : Int)]
theorem cv_append (l m : List (Nat × Nat)) : cv (l ++ m) = cv l ++ cv m := List.flatMap_append
abbrev OwnC (w : World) (base : Nat) (v : Value) (l : List (Nat × Nat)) : Prop := w.ownsRow base 77 2 v l.length (cv l)
theorem infoC : (Try.prog.info? 77).map (fun i => (i.zero, i.size, i.bytes)) = some (some (.agg #[.int .u32 0, .int .u8 0]), 2, 8) := by kernel_rfl
theorem cells_new (w : World) (cs : Array Value) (t : TypeId) : ∀ j u, cs.toList[j]? = some u → (w.alloc (.cells cs t)).cell? ((⟨w.heap.size, 0, none⟩ : Addr).add j) = some u := by
 intro j u hj
 have e : (⟨w.heap.size, 0, none⟩ : Addr).add j = ⟨w.heap.size, j, none⟩ := by unfold Addr.add; split <;> simp_all
 have := World.alloc_heap_new w (.cells cs t)
 rw [e]
 simp only [World.cell?, this]
 simpa using hj
theorem wp_app {w : World} {ops : Array Oper} {rest : List Oper} {o : Oper} {ac : Act} {Q : Exit → Act → World → Prop} (hg : o.guard = none) (s x : Operand) (hop : o.op = .call { callee := .builtin .append, args := #[s, x], argTypes := #[43, 43] })
  (base : Nat) (v : Value) (l : List (Nat × Nat)) (a c : Nat) (hs : ac.eval s = v) (hown : OwnC w base v l) (cap : Nat) (hx : ac.eval x = .slice (some ⟨w.heap.size, 0, none⟩) 1 cap) (hl : l.length < 100000000) (hbase : base ≤ w.heap.size)
  (hK : ∀ v' w', OwnC w' base v' (l ++ [(a, c)]) → w.grownBy w' v.ownBlock → v' ≠ .slice none 0 0 → wpList Try.prog ops Q rest (ac.put o.dst v') w') :
  wpList Try.prog ops Q (o :: rest) ac (w.alloc (.cells #[.int .u32 (a : Int), .int .u8 (c : Int)] 77)) := by
 obtain ⟨i0, hi, hz0, hz1, hz2⟩ := info_parts infoC
 refine wpList_append_own _ hg s x _ hop base _ i0 _ 2 8 Try.underlying43 hi hz0 hz1 hz2 rfl (by decide) v l.length (cv l) hs (hown.alloc _) ⟨w.heap.size, 0, none⟩ 1 cap [.int .u32 (a : Int), .int .u8 (c : Int)] hx rfl (cells_new w #[.int .u32 (a : Int), .int .u8 (c : Int)] _) (by simp [Value.oneCell']) (by unfold maxLen; omega) (by omega) (by simp; omega) ?_
 intro v' w' h1 h2 h3
 refine hK v' w' ?_ ((World.grownBy_alloc w _ _).trans h2) (fun e => by have := h3.1 e; omega)
 show w'.ownsRow base _ 2 v' (l ++ [(a, c)]).length (cv (l ++ [(a, c)]))
 rw [cv_append, List.length_append]
 exact h1
def Rep (f : Nat → Nat) (l : List (Nat × Nat)) : Prop := l.Pairwise (fun x y => x.1 < y.1) ∧ ∀ a c, (a, c) ∈ l ↔ (c = f a ∧ c ≠ 0)
theorem Rep.unique {f : Nat → Nat} {l m : List (Nat × Nat)} (h : Rep f l) (k : Rep f m) : l = m := by
 have hp : l.Perm m := by
  refine (List.perm_ext_iff_of_nodup ?_ ?_).2 fun x => ?_
  ·exact h.1.imp fun {a b} hab e => by rw [e] at hab; omega
  ·exact k.1.imp fun {a b} hab e => by rw [e] at hab; omega
  ·obtain ⟨a, c⟩ := x
   rw [h.2, k.2]
 exact List.Perm.eq_of_pairwise (le := fun x y => x.1 < y.1) (fun a b _ _ h1 h2 => by omega) h.1 k.1 hp
theorem keys_facts {w : World} {b n : Nat} {D : DataW Unit} (h : w.ownsMap Try.prog 22 (plainElem Try.prog 5) b n D) :
  (It.u32Keys D).Nodup ∧ (∀ x, x ∈ It.u32Keys D ↔ Maps.has D (.int .u32 x) = true) ∧ (∀ x ∈ It.u32Keys D, ∃ a : Nat, x = (a : Int) ∧ a < 4294967296) ∧ (It.u32Keys D).length = Maps.size D := by
 have hk := Try.underlying22
 obtain ⟨es, hD, hpw, _⟩ := h.entries law
 obtain ⟨es', hD', hko⟩ := h.keysOf
 obtain rfl : es = es' := by rw [hD] at hD'; simpa using hD'
 have hwf := It.u32Keys_wf h hk
 subst hD
 have hkk : ∀ p ∈ es, ∃ x, p.1 = Lit.int .u32 x := fun p hp => by
  obtain ⟨v, hv⟩ := hko p hp
  obtain ⟨x, _, hx, _⟩ := It.Maps.keyOf_u32 hk hv
  exact ⟨x, hx⟩
 refine ⟨?_, fun x => ?_, fun x hx => ?_, ?_⟩
 ·show (es.map fun p => It.litInt p.1).Nodup
  refine List.pairwise_map.2 (hpw.imp_of_mem fun {p q} hp' hq' hne e => hne ?_)
  obtain ⟨a, ha⟩ := hkk p hp'
  obtain ⟨b, hb⟩ := hkk q hq'
  rw [ha, hb] at e ⊢
  exact congrArg _ e
 ·rw [has_eq, List.any_eq_true]
  show x ∈ (es.map fun p => It.litInt p.1) ↔ _
  rw [List.mem_map]
  constructor
  ·rintro ⟨p, hp', rfl⟩
   obtain ⟨a, ha⟩ := hkk p hp'
   exact ⟨p, hp', by rw [ha]; simp [Lit.sameKey, It.litInt]⟩
  ·rintro ⟨p, hp', hs⟩
   obtain ⟨a, ha⟩ := hkk p hp'
   rw [ha] at hs
   exact ⟨p, hp', by rw [ha]; simpa [Lit.sameKey, It.litInt] using hs⟩
 ·have := hwf x hx
  simp [Lit.wf, IntKind.min, IntKind.max, IntKind.signed, IntKind.bits] at this
  exact ⟨x.toNat, by omega, by omega⟩
 ·simp [It.u32Keys, Maps.size]
theorem sorted_rep {f : Nat → Nat} {ss : List Int} (hn : ss.Nodup) (hm : ∀ x : Int, x ∈ ss ↔ ∃ a : Nat, x = (a : Int) ∧ f a ≠ 0) :
  Rep f ((ss.mergeSort (fun x y => decide (x ≤ y))).map (fun x => (x.toNat, f x.toNat))) := by
 have hp := List.mergeSort_perm ss (fun x y => decide (x ≤ y))
 have hs : (ss.mergeSort (fun x y => decide (x ≤ y))).Pairwise (fun x y => decide (x ≤ y) = true) :=
  List.pairwise_mergeSort (fun a b c h1 h2 => by simp only [decide_eq_true_eq] at *; omega) (fun a b => by simp only [Bool.or_eq_true, decide_eq_true_eq]; omega) ss
 generalize ss.mergeSort (fun x y => decide (x ≤ y)) = ts at hp hs ⊢
 have hnt : ts.Nodup := hp.nodup_iff.2 hn
 have hmt : ∀ x, x ∈ ts ↔ ∃ a : Nat, x = (a : Int) ∧ f a ≠ 0 := fun x => (hp.mem_iff).trans (hm x)
 constructor
 ·refine List.pairwise_map.2 ?_
  refine (List.pairwise_and_iff.2 ⟨hs, hnt⟩).imp_of_mem ?_
  intro x y hx hy ⟨h1, h2⟩
  obtain ⟨a, rfl, _⟩ := (hmt x).1 hx
  obtain ⟨b, rfl, _⟩ := (hmt y).1 hy
  simp only [decide_eq_true_eq] at h1
  simp only [Int.toNat_natCast]
  have : a ≠ b := fun e => h2 (by rw [e])
  omega
 ·intro a c
  rw [List.mem_map]
  constructor
  ·rintro ⟨x, hx, he⟩
   obtain ⟨b, rfl, hb⟩ := (hmt x).1 hx
   simp only [Int.toNat_natCast, Prod.mk.injEq] at he
   obtain ⟨rfl, rfl⟩ := he
   exact ⟨rfl, hb⟩
  ·rintro ⟨rfl, hc⟩
   exact ⟨(a : Int), (hmt _).2 ⟨a, rfl, hc⟩, by simp⟩
theorem OwnC.lt {w : World} {base : Nat} {v : Value} {l : List (Nat × Nat)} (h : OwnC w base v l) : ∀ k, v.ownBlock = some k → base ≤ k ∧ k < w.heap.size := World.ownsRow.lt h
theorem below_of_two {w w2 : World} {o : Obj} (h : Below (w.alloc o).heap.size (w.alloc o) w2) : Below w.heap.size w w2 := ((Below.refl _ w).alloc (Nat.le_refl _) o).trans (h.mono (by simp))
set_option maxHeartbeats 3200000 in
theorem Cells_calls (p b n : Nat) (f : Nat → Nat) (w : World) (h : MemAt w p b n f) (hn : n < 90000000) :
  Calls Try.prog 14 #[.pointer (some ⟨p, 0, none⟩)] w fun e w' => ∃ v l, e = .returned v ∧ Rep f l ∧ l.length ≤ n ∧ OwnC w' w.heap.size v l ∧ (v = .slice none 0 0 ↔ l = []) ∧ Below w.heap.size w w' := by
 have HM := Lib.hid h
 have hcell := h.cell
 obtain ⟨⟨D, ho, hD⟩, hf⟩ := h.map
 obtain ⟨kn, km, kw, kl⟩ := keys_facts ho
 have hsz : Maps.size D ≤ n := by
  obtain ⟨es, clock, hb, F, hs, rfl⟩ := ho
  simp only [Maps.size]
  rw [Go.length_sorted]
  simpa using hs
 have HD := Lib.hid hD
 have HO := Lib.hid ho
 have HF := Lib.hid hf
 have KN := Lib.hid kn
 have KM := Lib.hid km
 have KW := Lib.hid kw
 have KL := Lib.hid kl
 clear h hD ho hf kn km kw kl
 have hplt := HM.out.lt
 have hblt := HM.out.map.lt
 go_enter Try.func14, Try.ntmps14
 go_wp2_with (first
  | (go_at_call 34; refine (It.keysU_calls _ _).mono ?_; rintro e w1 ⟨rfl, rfl⟩)
  | (go_at_call 33; refine (It.sortedU (H := Unit) b n w.heap.size D _ _ (by simp) (by simp) (HO.out.alloc _) (by unfold maxLen; omega) (by omega)).mono ?_; rintro e w2 ⟨v, ss, rfl, hperm, hrow, hnil, hbel⟩))
 have hrow' := hrow.2
 have HROW := Lib.hid hrow
 have HP := Lib.hid hperm
 have HN := Lib.hid hnil
 have HBl := Lib.hid hbel
 clear hrow hperm hnil hbel
 obtain ⟨ks, hks⟩ : ∃ ks, ss.mergeSort (fun x y => decide (x ≤ y)) = ks := ⟨_, rfl⟩
 have hlen : ks.length = ss.length := by rw [← hks, List.length_mergeSort]
 have hrep : Rep f (ks.map (fun x => (x.toNat, f x.toNat))) := by
  rw [← hks]
  refine sorted_rep (HP.out.nodup_iff.2 KN.out) (fun x => ?_)
  rw [HP.out.mem_iff]
  constructor
  ·intro hx
   obtain ⟨a, rfl, ha⟩ := KW.out x hx
   refine ⟨a, rfl, ?_⟩
   have h1 := (KM.out _).1 hx
   have h2 := (HD.out a ha).2
   rw [show KU a = Lit.int .u32 (a : Int) from rfl, h1] at h2
   exact of_decide_eq_true h2.symm
  ·rintro ⟨a, rfl, ha⟩
   have hlt : a < 4294967296 := Nat.lt_of_not_le fun hle => ha (HF.out.2 a hle)
   refine (KM.out _).2 ?_
   have h2 := (HD.out a hlt).2
   rw [show Lit.int .u32 (a : Int) = KU a from rfl, h2]
   exact decide_eq_true ha
 have hkn : ∀ j, j < ks.length → ∃ a : Nat, ks[j]? = some (a : Int) ∧ a < 4294967296 := by
  intro j hj
  have hm : ks[j] ∈ It.u32Keys D := HP.out.mem_iff.1 ((List.mergeSort_perm ss _).mem_iff.1 (by rw [hks]; exact List.getElem_mem hj))
  obtain ⟨a, ha, hl⟩ := KW.out _ hm
  exact ⟨a, by rw [List.getElem?_eq_getElem hj, ha], hl⟩
 have hln : ks.length ≤ n := by
  rw [hlen, HP.out.length_eq, KL.out]; exact hsz
 rw [hks] at HROW
 have HREP := Lib.hid hrep
 have HKN := Lib.hid hkn
 have HKS := Lib.hid hks
 clear hrep hkn hks
 have hw2 : w.heap.size + 1 ≤ w2.heap.size := by have := HBl.out.size; simpa using this
 have hcw2 : w2.cell? ⟨p, 0, none⟩ = some (.map (some b)) := (HBl.out.cell (p := ⟨p, 0, none⟩) (by simp; omega)).trans (HM.out.alloc _).cell
 have hb2 : w2.heap[b]? = w.heap[b]? := (HBl.out.block b (by simp; omega)).trans (Below.heap_alloc _ _ b hblt)
 have hmw : ∀ wr, wr.heap[b]? = w2.heap[b]? → MapAt wr b n f := by
  intro wr e
  refine ⟨⟨D, ?_, HD.out⟩, HF.out⟩
  obtain ⟨es, clock, hb, rest⟩ := HO.out
  exact ⟨es, clock, (e.trans hb2).trans hb, rest⟩
 have HMW := Lib.hid hmw
 have HB2 := Lib.hid hb2
 have HC2 := Lib.hid hcw2
 clear hmw hb2 hcw2 hcell
 rcases hrow' with ⟨rfl, hz⟩ | ⟨g, cap, cur, rfl, hbase, hgb, r1, r2, r3, r4⟩
 ·have hk0 : ks = [] := List.eq_nil_of_length_eq_zero (by omega)
  subst hk0
  go_simp
  try rw [Oper.upon_value]
  go_wp2
  refine wp_loop_rounds 1 ?_
  rw [rounds_succ]
  go_wp2
  go_ret
  exact ⟨_, _, rfl, HREP.out, by simp, World.ownsRow_nil _ _ _ _, by simp, below_of_two HBl.out⟩
 ·have hgl : g < w2.heap.size := (Array.getElem?_eq_some_iff.1 hgb).1
  have HGB := Lib.hid hgb
  clear hgb r3 r4
  obtain ⟨N, hN⟩ : ∃ N, N = ss.length := ⟨_, rfl⟩
  rw [← hN] at HROW hlen r1 ⊢
  have HL := Lib.hid hlen
  clear hlen hN
  have hNn : N ≤ n := by have := HL.out; omega
  go_simp
  try rw [Oper.upon_value]
  go_wp2
  go_loopw [3, 13] (fun s3 s13 wr => ∃ (j : Nat) (v : Value), j ≤ N ∧ s13 = .int .i64 j ∧ v = s3 ∧ OwnC wr w2.heap.size v ((ks.map (fun x => (x.toNat, f x.toNat))).take j) ∧ (v = .slice none 0 0 ↔ j = 0) ∧ Below w2.heap.size w2 wr) (fun _ s13 _ => N - (intOf s13).toNat)
  case atStart => exact ⟨0, _, Nat.zero_le _, rfl, rfl, World.ownsRow_nil _ _ _ _, by simp, Below.refl _ _⟩
  case round =>
   obtain ⟨j, v, hj, rfl, rfl, hO, hN, hB⟩ := hrel
   have HO3 := Lib.hid hO
   have HN3 := Lib.hid hN
   have HB3 := Lib.hid hB
   clear hO hN hB
   by_cases hlt : j < N
   ·obtain ⟨a, ka, la⟩ := HKN.out j (by have := HL.out; omega)
    have hc1 : wr.cell? ⟨g, j, none⟩ = some (.int .u32 (a : Int)) := by
     refine (HB3.out.cell (p := ⟨g, j, none⟩) hgl).trans ?_
     rw [HROW.out.cellAt j (by omega)]
     simp [ka]
    have hc2 : wr.cell? ⟨p, 0, none⟩ = some (.map (some b)) := (HB3.out.cell (p := ⟨p, 0, none⟩) (by show p < _; omega)).trans HC2.out
    have hm := HMW.out wr (HB3.out.block b (by omega))
    have HKA := Lib.hid ka
    clear ka
    have HLL : Hid (((ks.map (fun x => (x.toNat, f x.toNat))).take j).length < 100000000) := Lib.hid (Nat.lt_of_le_of_lt (List.length_take_le _ _) (by omega))
    go_wp2_with (first
     | (at_lookup; refine wp_look rfl _ _ rfl b n f rfl hm a la rfl ?_)
     | (at_builtin; refine wp_app rfl _ _ rfl w2.heap.size v _ a (f a) rfl HO3.out 1 rfl HLL.out HB3.out.size ?_; intro v' w3 h3 hg3 hn3))
    go_roundw
    case rel =>
     have e : (ks.map (fun x => (x.toNat, f x.toNat))).take (j + 1) = (ks.map (fun x => (x.toNat, f x.toNat))).take j ++ [(a, f a)] := by
      rw [List.take_add_one]
      simp [HKA.out]
     refine ⟨j + 1, v', hlt, by go_num, rfl, by rw [e]; exact h3, by simp [hn3], ?_⟩
     exact HB3.out.grown hg3 HB3.out.size (fun q hq => (HO3.out.lt q hq).1)
    case measure => simp [intOf]; omega
   ·obtain rfl : j = N := by omega
    go_wp2
    go_ret
    have e : (ks.map (fun x => (x.toNat, f x.toNat))).take j = ks.map (fun x => (x.toNat, f x.toNat)) := List.take_of_length_le (by rw [List.length_map]; have := HL.out; omega)
    have hO := HO3.out
    rw [e] at hO
    refine ⟨v, _, rfl, HREP.out, by simp; omega, ?_, ?_, (below_of_two HBl.out).trans (HB3.out.mono (by omega))⟩
    ·exact ⟨hO.1, hO.2.imp id (fun ⟨g', cap', cur', h1, h2, h3⟩ => ⟨g', cap', cur', h1, by omega, h3⟩)⟩
    ·rw [HN3.out]
     have := HL.out
     constructor
     ·intro h0; rw [List.map_eq_nil_iff]; exact List.eq_nil_of_length_eq_zero (by omega)
     ·intro h0; rw [List.map_eq_nil_iff] at h0; rw [h0] at this; simpa using this.symm
end Go.Proofs.Ytononmcodecmaaa.Mm
end
section
namespace Go.Proofs.Ytononmcodecmaaa.Mm
set_option maxRecDepth 100000
open Go.RowKit Go.Maps Go.Proofs
set_option linter.unusedVariables false
set_option linter.unusedSimpArgs false
def RefAt (w : World) (p : Nat) (l : List (Nat × Nat)) : Prop := ∃ v, w.heap[p]? = some (.cells #[v] 105 (0, 0)) ∧ OwnC w 0 v l
structure RefM (w : World) (p n : Nat) (f : Nat → Nat) (l : List (Nat × Nat)) : Prop where
 at_ : RefAt w p l
 rep : Rep f l
 len : l.length ≤ n
 lt : ∀ x ∈ l, x.1 < 4294967296 ∧ x.2 < 256
theorem OwnC.ne {w : World} {base p : Nat} {v u : Value} {l : List (Nat × Nat)} (hp : w.heap[p]? = some (.cells #[u] 105 (0, 0))) (h : OwnC w base v l) : v.ownBlock ≠ some p := by
 rcases h.2 with ⟨rfl, _⟩ | ⟨g, cap, cur, rfl, _, hg, _⟩
 ·simp [Value.ownBlock]
 ·intro e
  simp [Value.ownBlock] at e
  rw [e, hp] at hg
  cases hg
theorem RefAt.kept {w w' : World} {p : Nat} {l : List (Nat × Nat)} {row : Option Nat} (h : RefAt w p l) (hg : w.grownBy w' row) (hp : some p ≠ row) (hr : ∀ v, OwnC w 0 v l → w.heap[p]? = some (.cells #[v] 105 (0, 0)) → v.ownBlock = none ∨ v.ownBlock ≠ row) : RefAt w' p l := by
 obtain ⟨v, h1, h2⟩ := h
 exact ⟨v, (hg.block p (Array.getElem?_eq_some_iff.1 h1).1 hp).trans h1, h2.kept hg (hr v h2 h1)⟩
theorem RefAt.below {w w' : World} {p : Nat} {l : List (Nat × Nat)} (h : RefAt w p l) (hB : Below w.heap.size w w') : RefAt w' p l := by
 obtain ⟨v, h1, h2⟩ := h
 refine ⟨v, (hB.block p (Array.getElem?_eq_some_iff.1 h1).1).trans h1, h2.1, ?_⟩
 rcases h2.2 with hn | ⟨g, cap, cur, e, hb, hg, rest⟩
 ·exact .inl hn
 ·exact .inr ⟨g, cap, cur, e, hb, (hB.block g (Array.getElem?_eq_some_iff.1 hg).1).trans hg, rest⟩
theorem cv_get0 (l : List (Nat × Nat)) (j : Nat) (x : Nat × Nat) (h : l[j]? = some x) : (cv l)[j * 2]? = some (.int .u32 (x.1 : Int)) ∧ (cv l)[j * 2 + 1]? = some (.int .u8 (x.2 : Int)) := by
 induction l generalizing j with
 | nil => simp at h
 | cons y l ih =>
  cases j with
  | zero =>
   simp only [List.getElem?_cons_zero, Option.some.injEq] at h
   subst h
   simp [cv]
  | succ j =>
   simp only [List.getElem?_cons_succ] at h
   have := ih j h
   simp only [cv, List.flatMap_cons] at this ⊢
   rw [show (j + 1) * 2 = j * 2 + 2 by omega, show j * 2 + 2 + 1 = (j * 2 + 1) + 2 by omega]
   exact this
theorem OwnC.cell {w : World} {base g cap : Nat} {l : List (Nat × Nat)} {N : Nat} (hN : N = l.length) (h : OwnC w base (.slice (some ⟨g, 0, none⟩) N cap) l) (j : Nat) (x : Nat × Nat) (hx : l[j]? = some x) :
  w.cell? ⟨g, j * 2, none⟩ = some (.int .u32 (x.1 : Int)) ∧ w.cell? ⟨g, j * 2 + 1, none⟩ = some (.int .u8 (x.2 : Int)) := by
 subst hN
 have hj : j < l.length := (List.getElem?_eq_some_iff.1 hx).1
 obtain ⟨e1, e2⟩ := cv_get0 l j x hx
 exact ⟨(World.ownsRow.cellAt h (j * 2) (by omega)).trans e1, (World.ownsRow.cellAt h (j * 2 + 1) (by omega)).trans e2⟩
theorem Rep.look {f : Nat → Nat} {l : List (Nat × Nat)} (h : Rep f l) {j : Nat} {x : Nat × Nat} (hx : l[j]? = some x) : x.2 = f x.1 := ((h.2 x.1 x.2).1 (List.mem_of_getElem? hx)).1
theorem Rep.none {f : Nat → Nat} {l : List (Nat × Nat)} (h : Rep f l) {a : Nat} (hn : ∀ x ∈ l, x.1 ≠ a) : f a = 0 := by
 apply Classical.byContradiction
 intro h0
 exact hn (a, f a) ((h.2 a (f a)).2 ⟨rfl, h0⟩) rfl
theorem rNew_calls (w : World) : Calls Try.prog 29 #[] w fun e w' => e = .returned (.pointer (some ⟨w.heap.size, 0, none⟩)) ∧ RefM w' w.heap.size 0 (fun _ => 0) [] ∧ w.grownBy w' none := by
 go_enter Try.func29, Try.ntmps29
 go_wp2
 go_ret
 exact ⟨rfl, ⟨⟨_, World.alloc_heap_new w _, World.ownsRow_nil _ _ _ _⟩, ⟨List.Pairwise.nil, fun a c => by simp⟩, Nat.le_refl _, by simp⟩, World.grownBy_alloc w _ none⟩
def rstep (a c : Nat) (st : List (Nat × Nat) × Bool) (x : Nat × Nat) : List (Nat × Nat) × Bool :=
 let s1 := if !st.2 && decide (a ≤ x.1) then (st.1 ++ [(a, c)], true) else st
 (if x.1 = a then s1.1 else s1.1 ++ [x], s1.2)
def rloop (a c : Nat) (l : List (Nat × Nat)) : List (Nat × Nat) × Bool := l.foldl (rstep a c) ([], decide (c = 0))
def rset (l : List (Nat × Nat)) (a c : Nat) : List (Nat × Nat) := if (rloop a c l).2 then (rloop a c l).1 else (rloop a c l).1 ++ [(a, c)]
theorem rloop_snoc (a c : Nat) (l : List (Nat × Nat)) (x : Nat × Nat) : rloop a c (l ++ [x]) = rstep a c (rloop a c l) x := by
 simp [rloop]
def RL (a c : Nat) (l : List (Nat × Nat)) : Prop :=
  (rloop a c l).1.Pairwise (fun x y => x.1 < y.1) ∧ ((rloop a c l).2 = true ↔ (c = 0 ∨ ∃ x ∈ l, a ≤ x.1)) ∧
  (∀ x y, (x, y) ∈ (rloop a c l).1 ↔ (((x, y) ∈ l ∧ x ≠ a) ∨ (x = a ∧ y = c ∧ c ≠ 0 ∧ ∃ z ∈ l, a ≤ z.1))) ∧ (rloop a c l).1.length ≤ l.length + (rloop a c l).2.toNat
theorem RL_step (a c : Nat) (l : List (Nat × Nat)) (x : Nat × Nat) (hx : ∀ z ∈ l, z.1 < x.1) (ih : RL a c l) : RL a c (l ++ [x]) := by
  obtain ⟨i1, i2, i3, i4⟩ := ih
  unfold RL
  rw [rloop_snoc]
  generalize rloop a c l = st at *
  obtain ⟨out, put⟩ := st
  simp only at i1 i2 i3 i4
  have hlx := hx
  have hout : ∀ z ∈ out, (z ∈ l ∧ z.1 ≠ a) ∨ (z.1 = a ∧ ∃ y ∈ l, a ≤ y.1) := fun z hz => ((i3 z.1 z.2).1 hz).imp id (fun h => ⟨h.1, h.2.2.2⟩)
  have houtx : ∀ z ∈ out, z.1 < x.1 := fun z hz => by
   rcases hout z hz with ⟨h, _⟩ | ⟨h, y, hy, hle⟩
   ·exact hlx z h
   ·have := hlx y hy; omega
  have pw : ∀ (m : List (Nat × Nat)) (y : Nat × Nat), m.Pairwise (fun x y => x.1 < y.1) → (∀ z ∈ m, z.1 < y.1) → (m ++ [y]).Pairwise (fun x y => x.1 < y.1) := fun m y h1 h2 =>
   List.pairwise_append.2 ⟨h1, List.pairwise_singleton _ _, fun z hz w hw => by simp at hw; rw [hw]; exact h2 z hz⟩
  cases put with
  | true =>
   have hput := i2.1 rfl
   have e : rstep a c (out, true) x = (if x.1 = a then out else out ++ [x], true) := by simp [rstep]
   rw [e]
   refine ⟨?_, ?_, ?_, ?_⟩
   ·by_cases hxa : x.1 = a
    ·rw [if_pos hxa]; exact i1
    ·rw [if_neg hxa]; exact pw out x i1 houtx
   ·simp only [true_iff]
    rcases hput with h | ⟨z, hz, h⟩
    ·exact Or.inl h
    ·exact Or.inr ⟨z, by simp [hz], h⟩
   ·intro u y
    by_cases hxa : x.1 = a
    ·rw [if_pos hxa, i3]
     constructor
     ·rintro (⟨h1, h2⟩ | ⟨h1, h2, h3, z, hz, hle⟩)
      ·exact Or.inl ⟨by simp [h1], h2⟩
      ·exact Or.inr ⟨h1, h2, h3, z, by simp [hz], hle⟩
     ·rintro (⟨h1, h2⟩ | ⟨h1, h2, h3, z, hz, hle⟩)
      ·rw [List.mem_append] at h1
       rcases h1 with h1 | h1
       ·exact Or.inl ⟨h1, h2⟩
       ·simp at h1; rw [← h1] at hxa; exact absurd hxa h2
      ·rcases hput with h | ⟨z', hz', h⟩
       ·exact absurd h h3
       ·exact Or.inr ⟨h1, h2, h3, z', hz', h⟩
    ·rw [if_neg hxa, List.mem_append, i3]
     constructor
     ·rintro ((⟨h1, h2⟩ | ⟨h1, h2, h3, z, hz, hle⟩) | h1)
      ·exact Or.inl ⟨by simp [h1], h2⟩
      ·exact Or.inr ⟨h1, h2, h3, z, by simp [hz], hle⟩
      ·simp at h1; subst h1; exact Or.inl ⟨by simp, hxa⟩
     ·rintro (⟨h1, h2⟩ | ⟨h1, h2, h3, z, hz, hle⟩)
      ·rw [List.mem_append] at h1
       rcases h1 with h1 | h1
       ·exact Or.inl (Or.inl ⟨h1, h2⟩)
       ·exact Or.inr h1
      ·rcases hput with h | ⟨z', hz', h⟩
       ·exact absurd h h3
       ·exact Or.inl (Or.inr ⟨h1, h2, h3, z', hz', h⟩)
   ·simp only [List.length_append, List.length_cons, List.length_nil]
    split
    ·omega
    ·simp only [List.length_append, List.length_cons, List.length_nil, Bool.toNat_true] at i4 ⊢; omega
  | false =>
   have hput : ¬ (c = 0 ∨ ∃ z ∈ l, a ≤ z.1) := fun h => by have := i2.2 h; cases this
   have hc0 : c ≠ 0 := fun h => hput (Or.inl h)
   have hla : ∀ z ∈ l, z.1 < a := fun z hz => Nat.lt_of_not_le fun h => hput (Or.inr ⟨z, hz, h⟩)
   have hout2 : ∀ u y, (u, y) ∈ out ↔ (u, y) ∈ l := fun u y => by
    rw [i3]
    constructor
    ·rintro (⟨h, _⟩ | ⟨_, _, _, z, hz, h⟩)
     ·exact h
     ·have := hla z hz; omega
    ·intro h; exact Or.inl ⟨h, by have := hla _ h; simp only at this; omega⟩
   have houta : ∀ z ∈ out, z.1 < a := fun z hz => hla z ((hout2 z.1 z.2).1 hz)
   simp only [Bool.toNat_false, Nat.add_zero] at i4
   by_cases hax : a ≤ x.1
   ·have e : rstep a c (out, false) x = (if x.1 = a then out ++ [(a, c)] else out ++ [(a, c)] ++ [x], true) := by simp [rstep, hax]
    rw [e]
    have p1 := pw out (a, c) i1 houta
    refine ⟨?_, ?_, ?_, ?_⟩
    ·by_cases hxa : x.1 = a
     ·rw [if_pos hxa]; exact p1
     ·rw [if_neg hxa]
      refine pw _ x p1 (fun z hz => ?_)
      rw [List.mem_append] at hz
      rcases hz with hz | hz
      ·exact houtx z hz
      ·simp at hz; rw [hz]; simp only; omega
    ·simp only [true_iff]; exact Or.inr ⟨x, by simp, hax⟩
    ·intro u y
     have hex : ∃ z ∈ l ++ [x], a ≤ z.1 := ⟨x, by simp, hax⟩
     by_cases hxa : x.1 = a
     ·rw [if_pos hxa, List.mem_append, hout2]
      constructor
      ·rintro (h | h)
       ·exact Or.inl ⟨by simp [h], by have := hla _ h; simp only at this; omega⟩
       ·simp at h; exact Or.inr ⟨h.1, h.2, hc0, hex⟩
      ·rintro (⟨h1, h2⟩ | ⟨h1, h2, _⟩)
       ·rw [List.mem_append] at h1
        rcases h1 with h1 | h1
        ·exact Or.inl h1
        ·simp at h1; rw [← h1] at hxa; exact absurd hxa h2
       ·exact Or.inr (by simp [h1, h2])
     ·rw [if_neg hxa, List.mem_append, List.mem_append, hout2]
      constructor
      ·rintro ((h | h) | h)
       ·exact Or.inl ⟨by simp [h], by have := hla _ h; simp only at this; omega⟩
       ·simp at h; exact Or.inr ⟨h.1, h.2, hc0, hex⟩
       ·simp at h; subst h; exact Or.inl ⟨by simp, hxa⟩
      ·rintro (⟨h1, h2⟩ | ⟨h1, h2, _⟩)
       ·rw [List.mem_append] at h1
        rcases h1 with h1 | h1
        ·exact Or.inl (Or.inl h1)
        ·exact Or.inr h1
       ·exact Or.inl (Or.inr (by simp [h1, h2]))
    ·simp only [Bool.toNat_true, List.length_append, List.length_cons, List.length_nil]
     split <;> simp only [List.length_append, List.length_cons, List.length_nil] <;> omega
   ·have hxa : x.1 ≠ a := by omega
    have e : rstep a c (out, false) x = (out ++ [x], false) := by simp [rstep, hax, hxa]
    rw [e]
    refine ⟨pw out x i1 houtx, ?_, ?_, ?_⟩
    ·simp only [Bool.false_eq_true, false_iff]
     rintro (h | ⟨z, hz, h⟩)
     ·exact hc0 h
     ·rw [List.mem_append] at hz
      rcases hz with hz | hz
      ·have := hla z hz; omega
      ·simp at hz; rw [hz] at h; exact hax h
    ·intro u y
     rw [List.mem_append, hout2]
     constructor
     ·rintro (h | h)
      ·exact Or.inl ⟨by simp [h], by have := hla _ h; simp only at this; omega⟩
      ·simp at h; subst h; exact Or.inl ⟨by simp, hxa⟩
     ·rintro (⟨h1, h2⟩ | ⟨_, _, _, z, hz, h⟩)
      ·rw [List.mem_append] at h1; exact h1
      ·rw [List.mem_append] at hz
       rcases hz with hz | hz
       ·have := hla z hz; omega
       ·simp at hz; rw [hz] at h; exact absurd h hax
    ·simp only [Bool.toNat_false, List.length_append, List.length_cons, List.length_nil]; omega
theorem RL_all (a c : Nat) (l : List (Nat × Nat)) (hp : l.Pairwise (fun x y => x.1 < y.1)) : ∀ j, RL a c (l.take j) := by
 intro j
 induction j with
 | zero => simp [RL, rloop]
 | succ j ih =>
  by_cases h : j < l.length
  ·rw [List.take_add_one, List.getElem?_eq_getElem h]
   refine RL_step a c _ l[j] (fun z hz => ?_) ih
   obtain ⟨i, hi, rfl⟩ := List.getElem_of_mem hz
   rw [List.getElem_take]
   simp at hi
   exact List.pairwise_iff_getElem.1 hp i j (by omega) h (by omega)
  ·rw [List.take_of_length_le (by omega)]
   rw [List.take_of_length_le (by omega)] at ih
   exact ih
theorem rset_rep {f : Nat → Nat} {l : List (Nat × Nat)} (h : Rep f l) (a c : Nat) : Rep (upd f a c) (rset l a c) ∧ (rset l a c).length ≤ l.length + 1 := by
 have hr := RL_all a c l h.1 l.length
 rw [List.take_length] at hr
 obtain ⟨i1, i2, i3, i4⟩ := hr
 unfold rset
 have key : ∀ u y, ((u, y) ∈ l ∧ u ≠ a) ∨ (u = a ∧ y = c ∧ c ≠ 0) ↔ (y = upd f a c u ∧ y ≠ 0) := by
  intro u y
  unfold upd
  by_cases hu : u = a
  ·subst hu
   simp
   intro e
   rw [e]
  ·rw [if_neg hu, h.2]
   simp [hu]
 cases hb : (rloop a c l).2 with
 | true =>
  rw [if_pos rfl]
  rw [hb] at i4
  refine ⟨⟨i1, fun u y => ?_⟩, by simpa using i4⟩
  rw [i3, ← key]
  constructor
  ·rintro (h1 | ⟨h1, h2, h3, _⟩)
   ·exact Or.inl h1
   ·exact Or.inr ⟨h1, h2, h3⟩
  ·rintro (h1 | ⟨h1, h2, h3⟩)
   ·exact Or.inl h1
   ·rcases i2.1 hb with h0 | ⟨z, hz, hle⟩
    ·exact absurd h0 h3
    ·exact Or.inr ⟨h1, h2, h3, z, hz, hle⟩
 | false =>
  rw [if_neg (by simp)]
  rw [hb] at i4
  have hput : ¬ (c = 0 ∨ ∃ z ∈ l, a ≤ z.1) := fun h => by have := i2.2 h; rw [hb] at this; cases this
  have hc0 : c ≠ 0 := fun h => hput (Or.inl h)
  have hla : ∀ z ∈ l, z.1 < a := fun z hz => Nat.lt_of_not_le fun h => hput (Or.inr ⟨z, hz, h⟩)
  refine ⟨⟨List.pairwise_append.2 ⟨i1, List.pairwise_singleton _ _, fun z hz w hw => ?_⟩, fun u y => ?_⟩, by simpa using i4⟩
  ·simp at hw
   rw [hw]
   rcases (i3 z.1 z.2).1 hz with ⟨h1, _⟩ | ⟨_, _, _, y, hy, h1⟩
   ·exact hla z h1
   ·have := hla y hy; omega
  ·rw [List.mem_append, i3, ← key]
   constructor
   ·rintro ((h1 | ⟨h1, h2, h3, _⟩) | h1)
    ·exact Or.inl h1
    ·exact Or.inr ⟨h1, h2, h3⟩
    ·simp at h1; exact Or.inr ⟨h1.1, h1.2, hc0⟩
   ·rintro (h1 | ⟨h1, h2, h3⟩)
    ·exact Or.inl (Or.inl h1)
    ·exact Or.inr (by simp [h1, h2])
theorem wp_app2 {w : World} {ops : Array Oper} {rest : List Oper} {o : Oper} {ac : Act} {Q : Exit → Act → World → Prop} (hg : o.guard = none) (s x : Operand) (hop : o.op = .call { callee := .builtin .append, args := #[s, x], argTypes := #[43, 43] })
  (base : Nat) (v : Value) (l : List (Nat × Nat)) (X : Nat × Nat) (hs : ac.eval s = v) (hown : OwnC w base v l) (cap : Nat) (hx : ac.eval x = .slice (some ⟨w.heap.size, 0, none⟩) 1 cap) (hl : l.length < 100000000) (hbase : base ≤ w.heap.size)
  (hK : ∀ v' w', OwnC w' base v' (l ++ [X]) → w.grownBy w' v.ownBlock → v' ≠ .slice none 0 0 → wpList Try.prog ops Q rest (ac.put o.dst v') w') :
  wpList Try.prog ops Q (o :: rest) ac (w.alloc (.cells #[.int .u32 (X.1 : Int), .int .u8 (X.2 : Int)] 77)) := by
 obtain ⟨a, c⟩ := X
 exact wp_app hg s x hop base v l a c hs hown cap hx hl hbase hK
theorem below_grown {w w' : World} (h : Below w.heap.size w w') : w.grownBy w' none := ⟨h.os, h.tape, h.output, h.size, fun i hi _ => h.block i hi⟩
theorem grown_setp {w w' : World} {p : Nat} (h : Below w.heap.size w w') (v : Value) : w.grownBy (w'.setCell ⟨p, 0, none⟩ v) (some p) :=
 ((below_grown h).but (some p)).trans (grownBy_setCell' w' p v)
theorem RefAt.made {w : World} {p base : Nat} {u v : Value} {l : List (Nat × Nat)} (hp : w.heap[p]? = some (.cells #[u] 105 (0, 0))) (h : OwnC w base v l) : RefAt (w.setCell ⟨p, 0, none⟩ v) p l := by
 refine ⟨v, ?_, ?_⟩
 ·rw [heap_setCell_same w p 0 #[u] _ v hp]; rfl
 ·have := World.ownsRow.kept h (grownBy_setCell' w p v) (Or.inr (OwnC.ne hp h))
  exact ⟨this.1, this.2.imp id (fun ⟨g, cap, cur, h1, h2, h3⟩ => ⟨g, cap, cur, h1, Nat.zero_le _, h3⟩)⟩
theorem hold_ {p : Prop} (h : True → p) : p := h trivial
theorem own_shape {w : World} {base : Nat} {v : Value} {l : List (Nat × Nat)} (h : OwnC w base v l) (hn : v ≠ .slice none 0 0) : ∃ g m cap, v = .slice (some ⟨g, 0, none⟩) m cap := by
 rcases h.2 with ⟨h1, _⟩ | ⟨g, cap, cur, e, _⟩
 ·exact absurd h1 hn
 ·exact ⟨g, _, cap, e⟩
set_option maxHeartbeats 6400000 in
set_option maxRecDepth 100000 in
theorem rset_calls (p n : Nat) (f : Nat → Nat) (l : List (Nat × Nat)) (a c : Nat) (w : World) (h : RefM w p n f l) (hn : n < 90000000) (ha : a < 4294967296) (hc : c < 256) :
  Calls Try.prog 63 #[.pointer (some ⟨p, 0, none⟩), .int .u32 (a : Int), .int .u8 (c : Int)] w fun e w' => e = .returned (.tuple #[]) ∧ RefM w' p (n + 1) (upd f a c) (rset l a c) ∧ w.grownBy w' (some p) := by
 obtain ⟨v, h1, h2⟩ := h.at_
 obtain ⟨hrep, hrl⟩ := rset_rep h.rep a c
 have HR := Lib.hid hrep
 have HR0 := Lib.hid h.rep
 have HRL := Lib.hid hrl
 have HL := Lib.hid h.len
 have HLT := Lib.hid h.lt
 have HS := Lib.hid (RL_all a c l h.rep.1)
 have hplt := (Array.getElem?_eq_some_iff.1 h1).1
 clear h hrep hrl
 have hcell : w.cell? ⟨p, 0, none⟩ = some v := by simp [World.cell?, h1]
 have hfr : w.frozen? ⟨p, 0, none⟩ = false := by simp [World.frozen?, h1]
 have HP := Lib.hid h1
 clear h1
 have hc0 : ((c : Int) == 0) = decide (c = 0) := by
  by_cases h : c = 0
  ·simp [h]
  ·rw [decide_eq_false h]; exact beq_eq_false_iff_ne.mpr (by omega)
 have hfin : ∀ (wr : World) (o : Value), OwnC wr w.heap.size o (rset l a c) → Below w.heap.size w wr → RefM (wr.setCell ⟨p, 0, none⟩ o) p (n + 1) (upd f a c) (rset l a c) ∧ w.grownBy (wr.setCell ⟨p, 0, none⟩ o) (some p) := by
  intro wr o ho hb
  refine ⟨⟨RefAt.made ((hb.block p hplt).trans HP.out) ho, HR.out, Nat.le_trans HRL.out (Nat.succ_le_succ HL.out), ?_⟩, grown_setp hb o⟩
  intro x hx
  obtain ⟨h1, h2⟩ := (HR.out.2 x.1 x.2).1 hx
  by_cases e : x.1 = a
  ·rw [e] at h1; simp [upd] at h1; rw [e, h1]; exact ⟨ha, hc⟩
  ·have h3 : x.2 = f x.1 := by rw [h1]; simp [upd, e]
   exact HLT.out x ((HR0.out.2 x.1 x.2).2 ⟨h3, h2⟩)
 have HFIN := Lib.hid hfin
 clear hfin
 have h2' := h2.2
 rcases h2' with ⟨rfl, hz⟩ | ⟨g, cap, cur, rfl, hbase, hgb, r1, r2, r3, r4⟩
 ·have hl0 : l = [] := List.eq_nil_of_length_eq_zero hz
  subst hl0
  have hb1 := ((Below.refl _ w).alloc (Nat.le_refl _) (.cells #[] 77))
  have ho1 : OwnC (w.alloc (.cells #[] 77)) w.heap.size (.slice (some ⟨w.heap.size, 0, none⟩) 0 0) [] := World.ownsRow_lit w #[] 0 (Nat.le_refl _) (by unfold maxLen; omega) rfl
  obtain ⟨W1, hW1⟩ : ∃ W1, w.alloc (.cells #[] 77) = W1 := ⟨_, rfl⟩
  rw [hW1] at hb1 ho1
  have hcw1 : W1.cell? ⟨p, 0, none⟩ = some (.slice none 0 0) := (hb1.cell (p := ⟨p, 0, none⟩) hplt).trans hcell
  have hfw1 : W1.frozen? ⟨p, 0, none⟩ = false := by simp [World.frozen?, (hb1.block p hplt).trans HP.out]
  have HB1 := Lib.hid hb1
  have HO1 := Lib.hid ho1
  have HW1 := Lib.hid hW1
  clear hb1 ho1 hW1
  have hrs : rset [] a c = if c = 0 then [] else [(a, c)] := by simp [rset, rloop]
  have HRS := Lib.hid hrs
  clear hrs h2 hz
  have HZ : Hid ([].length < 100000000) := Lib.hid (show ([] : List (Nat × Nat)).length < 100000000 by decide)
  by_cases h0 : c = 0
  ·have hd : decide (c = 0) = true := decide_eq_true h0
   have HF := Lib.hid (HFIN.out _ _ (by rw [HRS.out, if_pos h0]; exact HO1.out) HB1.out)
   have H0 := Lib.hid h0
   clear h0
   go_enter Try.func63, Try.ntmps63
   go_wp2
   rw [HW1.out]
   refine wp_loop_rounds 1 ?_
   rw [rounds_succ]
   go_wp2
   go_end0
   exact ⟨rfl, HF.out⟩
  ·have hd : decide (c = 0) = false := decide_eq_false h0
   have H0 := Lib.hid h0
   clear h0
   go_enter Try.func63, Try.ntmps63
   go_wp2
   rw [HW1.out]
   refine wp_loop_rounds 1 ?_
   rw [rounds_succ]
   go_wp2_with (at_builtin; refine hold_ ?_)
   intro _
   refine wp_app rfl _ _ rfl w.heap.size (.slice (some ⟨w.heap.size, 0, none⟩) 0 0) [] a c rfl HO1.out 1 rfl HZ.out HB1.out.size ?_
   intro v' w3 h3 hg3 hn3
   have hB3 := Lib.hid (HB1.out.grown hg3 HB1.out.size (fun q hq => (OwnC.lt HO1.out q hq).1))
   have hcw3 : w3.cell? ⟨p, 0, none⟩ = some (.slice none 0 0) := (hB3.out.cell (p := ⟨p, 0, none⟩) hplt).trans hcell
   have hfw3 : w3.frozen? ⟨p, 0, none⟩ = false := by simp [World.frozen?, (hB3.out.block p hplt).trans HP.out]
   obtain ⟨g', m', cap', rfl⟩ := own_shape h3 hn3
   have H3 := Lib.hid h3
   clear h3
   go_wp2
   go_end0
   exact ⟨rfl, HFIN.out w3 _ (by rw [HRS.out, if_neg H0.out]; exact H3.out) hB3.out⟩
 ·clear r1 r2 r3 r4 hbase
  have hglt := (Array.getElem?_eq_some_iff.1 hgb).1
  have HG := Lib.hid hgb
  have HO := Lib.hid h2
  clear h2 hgb
  obtain ⟨N, hN⟩ : ∃ N, N = l.length := ⟨_, rfl⟩
  rw [← hN] at hcell
  have HN := Lib.hid hN
  have hNn : N ≤ n := by rw [hN]; exact HL.out
  clear hN
  go_enter Try.func63, Try.ntmps63
  go_wp2
  go_loopw [6, 7, 8] (fun s6 s7 s8 wr => ∃ (j : Nat) (o : Value) (out : List (Nat × Nat)) (put : Bool), j ≤ N ∧ s8 = .int .i64 j ∧ s7 = .bool put ∧ o = s6 ∧ (out, put) = rloop a c (l.take j) ∧ OwnC wr w.heap.size o out ∧ Below w.heap.size w wr) (fun _ _ s8 _ => N - (intOf s8).toNat)
  case atStart => exact ⟨0, _, [], decide (c = 0), Nat.zero_le _, rfl, rfl, rfl, rfl, World.ownsRow_lit w #[] 0 (Nat.le_refl _) (by unfold maxLen; omega) rfl, (Below.refl _ w).alloc (Nat.le_refl _) _⟩
  case round =>
   obtain ⟨j, o, out, put, hj, rfl, rfl, rfl, hst, hO, hB⟩ := hrel
   have HST := Lib.hid hst
   have HO3 := Lib.hid hO
   have HB := Lib.hid hB
   clear hst hO hB
   have hcw : wr.cell? ⟨p, 0, none⟩ = some (.slice (some ⟨g, 0, none⟩) N cap) := (HB.out.cell (p := ⟨p, 0, none⟩) hplt).trans hcell
   have HLO : Hid (out.length < 100000000) := Lib.hid (by
    have := (HS.out j).2.2.2
    rw [← HST.out] at this
    have h1 := List.length_take_le j l
    have h2 := Bool.toNat_le put
    simp only at this
    omega)
   by_cases hlt : j < N
   ·have hjl : j < l.length := by rw [← HN.out]; exact hlt
    obtain ⟨X, hX⟩ : ∃ X, X = l[j] := ⟨_, rfl⟩
    obtain ⟨c1, c2⟩ := OwnC.cell HN.out (by have := HO.out; rw [← HN.out] at this; exact this) j l[j] (List.getElem?_eq_getElem hjl)
    rw [← hX] at c1 c2
    have HF3 : Hid (∀ w3 : World, Below w.heap.size w w3 → w3.cell? ⟨p, 0, none⟩ = some (.slice (some ⟨g, 0, none⟩) N cap) ∧ w3.cell? ⟨g, j * 2, none⟩ = some (.int .u32 (X.1 : Int)) ∧ w3.cell? ⟨g, j * 2 + 1, none⟩ = some (.int .u8 (X.2 : Int))) :=
     Lib.hid (fun w3 hB3 => ⟨(hB3.cell (p := ⟨p, 0, none⟩) hplt).trans hcell, (hB3.cell (p := ⟨g, j * 2, none⟩) hglt).trans c1, (hB3.cell (p := ⟨g, j * 2 + 1, none⟩) hglt).trans c2⟩)
    replace c1 := (HB.out.cell (p := ⟨g, j * 2, none⟩) hglt).trans c1
    replace c2 := (HB.out.cell (p := ⟨g, j * 2 + 1, none⟩) hglt).trans c2
    have HX := Lib.hid hX
    clear hX
    have HNX : Hid (rloop a c (l.take (j + 1)) = rstep a c (out, put) X) := Lib.hid (by
     rw [List.take_add_one, List.getElem?_eq_getElem hjl, ← HX.out, HST.out]
     exact rloop_snoc a c _ X)
    have hc2 := hcell
    clear hcell
    cases put with
    | true =>
     by_cases hxa : X.1 = a
     ·have b1 : ((X.1 : Int) != (a : Int)) = false := bne_eq_false_iff_eq.mpr (by omega)
      have HXA := Lib.hid hxa
      clear hxa
      go_wp2
      go_roundw
      case rel => exact ⟨j + 1, o, out, true, hlt, by go_num, rfl, rfl, by rw [HNX.out]; simp [rstep, HXA.out], HO3.out, HB.out⟩
      case measure => simp [intOf]; omega
     ·have b1 : ((X.1 : Int) != (a : Int)) = true := bne_iff_ne.mpr (by omega)
      have HXA := Lib.hid hxa
      clear hxa
      go_wp2_with (at_builtin; refine wp_app2 rfl _ _ rfl w.heap.size o _ X rfl HO3.out 1 rfl HLO.out HB.out.size ?_; intro v' w3 h3 hg3 hn3)
      go_roundw
      case rel => exact ⟨j + 1, v', out ++ [X], true, hlt, by go_num, rfl, rfl, by rw [HNX.out]; simp [rstep, HXA.out], h3, HB.out.grown hg3 HB.out.size (fun q hq => (OwnC.lt HO3.out q hq).1)⟩
      case measure => simp [intOf]; omega
    | false =>
     by_cases hge : a ≤ X.1
     ·have b0 : decide ((a : Int) ≤ (X.1 : Int)) = true := decide_eq_true (by omega)
      have HGE := Lib.hid hge
      clear hge
      by_cases hxa : X.1 = a
      ·have b1 : ((X.1 : Int) != (a : Int)) = false := bne_eq_false_iff_eq.mpr (by omega)
       have HXA := Lib.hid hxa
       clear hxa
       go_wp2_with (at_builtin; refine wp_app rfl _ _ rfl w.heap.size o _ a c rfl HO3.out 1 rfl HLO.out HB.out.size ?_; intro v' w3 h3 hg3 hn3; have HB3 := Lib.hid (HB.out.grown hg3 HB.out.size (fun q hq => (OwnC.lt HO3.out q hq).1)); obtain ⟨e1, e2, e3⟩ := HF3.out w3 HB3.out; have H3 := Lib.hid h3; clear h3)
       go_roundw
       case rel => exact ⟨j + 1, v', out ++ [(a, c)], true, hlt, by go_num, rfl, rfl, by rw [HNX.out]; simp [rstep, HXA.out], H3.out, HB3.out⟩
       case measure => simp [intOf]; omega
      ·have b1 : ((X.1 : Int) != (a : Int)) = true := bne_iff_ne.mpr (by omega)
       have HXA := Lib.hid hxa
       clear hxa
       have HLO2 : Hid ((out ++ [(a, c)]).length < 100000000) := Lib.hid (by have := HLO.out; have h1 := (HS.out j).2.2.2; rw [← HST.out] at h1; have h2 := List.length_take_le j l; simp only [Bool.toNat_false] at h1; simp; omega)
       go_wp2_with (first
        | (at_builtin; refine wp_app rfl _ _ rfl w.heap.size o _ a c rfl HO3.out 1 rfl HLO.out HB.out.size ?_; intro v' w3 h3 hg3 hn3; have HB3 := Lib.hid (HB.out.grown hg3 HB.out.size (fun q hq => (OwnC.lt HO3.out q hq).1)); obtain ⟨e1, e2, e3⟩ := HF3.out w3 HB3.out; have H3 := Lib.hid h3; clear h3)
        | (at_builtin; refine wp_app2 rfl _ _ rfl w.heap.size v' _ X rfl H3.out 1 rfl HLO2.out HB3.out.size ?_; intro v4 w4 h4 hg4 hn4))
       go_roundw
       case rel => exact ⟨j + 1, v4, out ++ [(a, c)] ++ [X], true, hlt, by go_num, rfl, rfl, by rw [HNX.out]; simp [rstep, HXA.out, HGE.out], h4, HB3.out.grown hg4 HB3.out.size (fun q hq => (OwnC.lt H3.out q hq).1)⟩
       case measure => simp [intOf]; omega
     ·have b0 : decide ((a : Int) ≤ (X.1 : Int)) = false := decide_eq_false (by omega)
      have hxa : X.1 ≠ a := by omega
      have b1 : ((X.1 : Int) != (a : Int)) = true := bne_iff_ne.mpr (by omega)
      have HGE := Lib.hid hge
      have HXA := Lib.hid hxa
      clear hge hxa
      go_wp2_with (at_builtin; refine wp_app2 rfl _ _ rfl w.heap.size o _ X rfl HO3.out 1 rfl HLO.out HB.out.size ?_; intro v' w3 h3 hg3 hn3)
      go_roundw
      case rel => exact ⟨j + 1, v', out ++ [X], false, hlt, by go_num, rfl, rfl, by rw [HNX.out]; simp [rstep, HXA.out, HGE.out], h3, HB.out.grown hg3 HB.out.size (fun q hq => (OwnC.lt HO3.out q hq).1)⟩
      case measure => simp [intOf]; omega
   ·obtain rfl : j = N := by omega
    have hfw : wr.frozen? ⟨p, 0, none⟩ = false := by simp [World.frozen?, (HB.out.block p hplt).trans HP.out]
    have HEND : Hid (rset l a c = if put = true then out else out ++ [(a, c)]) := Lib.hid (by
     have := HST.out
     rw [List.take_of_length_le (by have := HN.out; omega)] at this
     unfold rset; rw [← this])
    cases put with
    | true =>
     have e := HEND.out
     rw [if_pos rfl] at e
     have hf := HFIN.out wr o (by rw [e]; exact HO3.out) HB.out
     have HF := Lib.hid hf
     clear hf e
     rcases HO3.out.2 with ⟨rfl, _⟩ | ⟨g', cap', cur', rfl, _⟩
     all_goals
      go_wp2
      go_end0
      exact ⟨rfl, HF.out⟩
    | false =>
     have e := HEND.out
     rw [if_neg (by simp)] at e
     have HE := Lib.hid e
     clear e
     go_wp2_with (at_builtin; refine hold_ ?_)
     intro _
     refine wp_app rfl _ _ rfl w.heap.size o _ a c rfl HO3.out 1 rfl HLO.out HB.out.size ?_
     intro v' w3 h3 hg3 hn3
     have hB3 := Lib.hid (HB.out.grown hg3 HB.out.size (fun q hq => (OwnC.lt HO3.out q hq).1))
     have hcw3 : w3.cell? ⟨p, 0, none⟩ = some (.slice (some ⟨g, 0, none⟩) j cap) := (hB3.out.cell (p := ⟨p, 0, none⟩) hplt).trans hcell
     have hfw3 : w3.frozen? ⟨p, 0, none⟩ = false := by simp [World.frozen?, (hB3.out.block p hplt).trans HP.out]
     obtain ⟨g', m', cap', rfl⟩ := own_shape h3 hn3
     have H3 := Lib.hid h3
     clear h3
     go_wp2
     go_end0
     exact ⟨rfl, HFIN.out w3 _ (by rw [HE.out]; exact H3.out) hB3.out⟩
end Go.Proofs.Ytononmcodecmaaa.Mm
end
section
namespace Go.Proofs.Ytononmcodecmaaa.Mm
set_option maxRecDepth 100000
open Go.RowKit Go.Maps Go.Proofs
set_option linter.unusedVariables false
set_option linter.unusedSimpArgs false
theorem own_opt {w : World} {base : Nat} {v : Value} {l : List (Nat × Nat)} (h : OwnC w base v l) : ∃ o cap, v = .slice o l.length cap ∧ (0 < l.length → ∃ g, o = some ⟨g, 0, none⟩) := by
 rcases h.2 with ⟨h1, h2⟩ | ⟨g, cap, cur, e, _⟩
 ·exact ⟨none, 0, by rw [h1, h2], fun h => by omega⟩
 ·exact ⟨_, cap, e, fun _ => ⟨g, rfl⟩⟩
theorem cast_ne (a b : Nat) : ((a : Int) == (b : Int)) = decide (a = b) := by
 by_cases h : a = b
 ·simp [h]
 ·rw [decide_eq_false h]; exact beq_eq_false_iff_ne.mpr (by omega)
set_option maxHeartbeats 1600000 in
theorem Same_calls (ba bb : Nat) (va vb : Value) (l m : List (Nat × Nat)) (w : World) (ha : OwnC w ba va l) (hb : OwnC w bb vb m) (hl : l.length < 1000000000) (hm : m.length < 1000000000) :
  Calls Try.prog 16 #[va, vb] w fun e w' => e = .returned (.bool (decide (l = m))) ∧ ∃ n, w' = w.drewN n := by
 obtain ⟨oa, ca, rfl, hoa⟩ := own_opt ha
 obtain ⟨ob, cb, rfl, hob⟩ := own_opt hb
 obtain ⟨N, hN⟩ : ∃ N, N = l.length := ⟨_, rfl⟩
 obtain ⟨M, hM⟩ : ∃ M, M = m.length := ⟨_, rfl⟩
 rw [← hN] at ha hoa hl ⊢
 rw [← hM] at hb hob hm ⊢
 have HA := Lib.hid ha
 have HB := Lib.hid hb
 have HN := Lib.hid hN
 have HM := Lib.hid hM
 have HOA := Lib.hid hoa
 have HOB := Lib.hid hob
 clear ha hb hN hM hoa hob
 by_cases hnm : N = M
 ·subst hnm
  go_enter Try.func16, Try.ntmps16
  go_wp2
  go_loopw [5] (fun i wr => ∃ j n : Nat, j ≤ N ∧ i = .int .i64 j ∧ l.take j = m.take j ∧ wr = w.drewN n) (fun i _ => N - (intOf i).toNat)
  case atStart => exact ⟨0, 0, Nat.zero_le _, rfl, rfl, rfl⟩
  case round =>
   obtain ⟨j, n, hj, rfl, ht, rfl⟩ := hrel
   by_cases hlt : j < N
   ·obtain ⟨g, rfl⟩ := HOA.out (by omega)
    obtain ⟨g2, rfl⟩ := HOB.out (by omega)
    have hjl : j < l.length := by rw [← HN.out]; exact hlt
    have hjm : j < m.length := by rw [← HM.out]; exact hlt
    obtain ⟨x, hx⟩ : ∃ x, l[j]? = some x := ⟨_, List.getElem?_eq_getElem hjl⟩
    obtain ⟨y, hy⟩ : ∃ y, m[j]? = some y := ⟨_, List.getElem?_eq_getElem hjm⟩
    obtain ⟨c1, c2⟩ := HA.out.cell HN.out j x hx
    obtain ⟨d1, d2⟩ := HB.out.cell HM.out j y hy
    obtain ⟨x1, x2⟩ := x
    obtain ⟨y1, y2⟩ := y
    have HT := Lib.hid ht
    have HX := Lib.hid hx
    have HY := Lib.hid hy
    clear ht hx hy hjl hjm
    have hu := Try.underlying77
    have e1 : ((x1 : Int) == (y1 : Int)) = decide (x1 = y1) := cast_ne x1 y1
    have e2 : ((x2 : Int) == (y2 : Int)) = decide (x2 = y2) := cast_ne x2 y2
    by_cases hq : x1 = y1 ∧ x2 = y2
    ·rw [decide_eq_true hq.1] at e1
     rw [decide_eq_true hq.2] at e2
     have HQ := Lib.hid hq
     clear hq
     go_wp2
     go_quiet (fail)
     go_wp2
     refine ⟨⟨j + 1, _, hlt, by go_num, ?_, rfl⟩, by simp [intOf]; omega⟩
     rw [List.take_add_one, List.take_add_one, HX.out, HY.out, HT.out, HQ.out.1, HQ.out.2]
    ·have hne : decide (l = m) = false := by
      refine decide_eq_false (fun h => hq ?_)
      have h1 := HX.out
      rw [h, HY.out] at h1
      cases h1
      exact ⟨rfl, rfl⟩
     have HNE := Lib.hid hne
     by_cases h1 : x1 = y1
     ·rw [decide_eq_true h1] at e1
      rw [decide_eq_false (fun h => hq ⟨h1, h⟩)] at e2
      clear hq h1 hne
      go_wp2
      go_quiet (fail)
      go_wp2
      go_ret
      exact ⟨congrArg (fun b => Ending.returned (.bool b)) HNE.out.symm, _, by first | exact World.drewN_drewN | exact World.drewN_drewN _ _ _ | rw [World.drewN_drewN]⟩
     ·rw [decide_eq_false h1] at e1
      clear hq h1 hne e2
      go_wp2
      go_quiet (fail)
      go_wp2
      go_ret
      exact ⟨congrArg (fun b => Ending.returned (.bool b)) HNE.out.symm, _, by first | exact World.drewN_drewN | exact World.drewN_drewN _ _ _ | rw [World.drewN_drewN]⟩
   ·have hjN : j = N := by omega
    have he : decide (l = m) = true := by
     refine decide_eq_true ?_
     rw [List.take_of_length_le (by rw [← HN.out]; omega), List.take_of_length_le (by rw [← HM.out]; omega)] at ht
     exact ht
    have HE := Lib.hid he
    subst hjN
    clear ht he
    go_wp2
    go_ret
    exact ⟨congrArg (fun b => Ending.returned (.bool b)) HE.out.symm, _, rfl⟩
 ·have he : decide (l = m) = false := decide_eq_false (fun h => hnm (by rw [HN.out, HM.out, h]))
  rw [he]
  have hb : ((N : Int) == (M : Int)) = false := by rw [cast_ne]; exact decide_eq_false hnm
  clear he hnm
  go_enter Try.func16, Try.ntmps16
  go_wp2
  go_ret
  exact ⟨rfl, 0, rfl⟩
end Go.Proofs.Ytononmcodecmaaa.Mm
end
section
namespace Go.Proofs.Ytononmcodecmaaa.Mm
set_option maxRecDepth 100000
open Go.RowKit Go.Maps Go.Proofs
set_option linter.unusedVariables false
set_option linter.unusedSimpArgs false
section
variable {p b n B : Nat} {f : Nat → Nat} {w w0 : World}
theorem Load_at (h : MemAt w p b n f) (a k V : Nat) (A K : Int) (hA : A = (a : Int)) (hK : K = (k : Int)) (hV : V = ld f a k) (ha : a < 4294967296) (hk : k = 1 ∨ k = 2 ∨ k = 4) :
  Calls Try.prog 35 #[.pointer (some ⟨p, 0, none⟩), .int .u32 A, .int .i64 K] w fun e w' => e = .returned (.tuple #[.int .u32 (V : Int), .int .i64 0]) ∧ w = w' := by
 subst hA hK hV
 exact Load_calls p b n f a k w h ha hk
theorem Store_at (h : MemAt w p b n f) (a k v : Nat) (A K V : Int) (hA : A = (a : Int)) (hK : K = (k : Int)) (hV : V = (v : Int)) (hn : n < 900000000) (ha : a < 4294967296) (hv : v < 4294967296) (hk : k = 1 ∨ k = 2 ∨ k = 4) :
  Calls Try.prog 18 #[.pointer (some ⟨p, 0, none⟩), .int .u32 A, .int .i64 K, .int .u32 V] w fun e w' => e = .returned (.int .i64 0) ∧ MemAt w' p b (n + k) (putn f a (fun j => v / 256 ^ j % 256) k) ∧ w.grownBy w' (some b) := by
 subst hA hK hV
 exact Store_calls p b n f a k v w h hn ha hv hk
theorem Put_at (h : MemAt w p b n f) (a : Nat) (A : Int) (s : ByteArray) (hA : A = (a : Int)) (hn : n + s.size < 900000000) (ha : a < 4294967296) :
  Calls Try.prog 30 #[.pointer (some ⟨p, 0, none⟩), .int .u32 A, .string s] w fun e w' => e = .returned (.tuple #[]) ∧ MemAt w' p b (n + s.size) (putn f a (bt s) s.size) ∧ w.grownBy w' (some b) := by
 subst hA
 exact Put_calls p b n f a s w h hn ha
end
theorem MemAt.below {w w' : World} {p b n : Nat} {f : Nat → Nat} (h : MemAt w p b n f) (hB : Below w.heap.size w w') : MemAt w' p b n f :=
 h.kept (below_grown hB) (by simp) (by simp)
theorem OwnC.below {w w' : World} {base : Nat} {v : Value} {l : List (Nat × Nat)} (h : OwnC w base v l) (hB : Below w.heap.size w w') : OwnC w' base v l :=
 World.ownsRow.kept h (below_grown hB) (by cases hv : v.ownBlock <;> simp)
end Go.Proofs.Ytononmcodecmaaa.Mm
end
