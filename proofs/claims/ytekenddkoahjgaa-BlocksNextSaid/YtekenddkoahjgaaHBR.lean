import Derived.Test.YtekenddkoahjgaaHBP
import Derived.WalkKit
import Derived.KernelRfl
import Derived.Below
import Derived.Outline
import Derived.LoopTactic
import Derived.Maps.Own
import Derived.Maps.OwnOps
import Derived.Maps.OwnSet
import Derived.Maps.Views
import Derived.Maps.AppendAt
import Derived.Laws.BitsLemmas
import Derived.Laws.BitsAllLaws
import Derived.Deep.LoopGhost
import Derived.Lib.Hide
import Derived.Deep.QuietTactic
import Derived.BigQuiet
import Derived.Deep.Draws
import Derived.Laws.StructEq
import Derived.Deep.Slices
import Derived.Deep.Fields
import Derived.ChangeSame
import Derived.Deep.CutBlock
import Derived.Deep.DeepCutAuto
import Derived.Deep.RegionHeld3
import Derived.StillTailTactics
import Derived.WalkSmall
import Derived.OwnWalk
import Derived.Laws.OwnMore
import Derived.Laws.BytesArg
import Derived.Laws.MakeOwn
import Derived.Laws.Tables
import Derived.Laws.Rows
import Derived.Laws.World
import Derived.Lib.SliceRun
/- Layer 8, walked: whetstoneref08: has, Reached, leader, Find. -/
namespace Go.Proofs.Ytekenddkoahjgaa.Bl
open Go.RowKit Go.Maps Go.Proofs
set_option maxRecDepth 100000
set_option linter.unusedVariables false
set_option linter.unusedSimpArgs false
theorem cells4 {w : World} {g : Nat} {B E : Int} {A : Option Addr} {n cap : Nat} {S : Int} {t : TypeId} {fr : Nat × Nat} (h : w.heap[g]? = some (.cells #[.int .u32 B, .int .u32 E, .slice A n cap, .int .i64 S] t fr)) :
  w.cell? ⟨g, 0, none⟩ = some (.int .u32 B) ∧ w.cell? ⟨g, 1, none⟩ = some (.int .u32 E) ∧ w.cell? ⟨g, 2, none⟩ = some (.slice A n cap) ∧ w.cell? ⟨g, 3, none⟩ = some (.int .i64 S) := by
 simp [World.cell?, h]
theorem infoN : (Try.prog.info? 23).map (·.size) = some 5 := by kernel_rfl
theorem grownBy_setRow (W : World) (g : Nat) (cs : Array Value) : W.grownBy (W.setRow g cs) (some g) := ⟨rfl, rfl, rfl, by simp [World.setRow], fun i hi hr => setRow_other _ _ _ _ (fun e => hr (by rw [e]))⟩
theorem has_calls (A : Option Addr) (c M : Nat) (l : List Nat) (a : Nat) (w : World) (hr : RdU w A l) (hM : l.length = M) (hl : M < 1000000) :
  Calls Try.prog 33 #[.slice A M c, .int .u32 (a : Int)] w fun e w' => e = .returned (.bool (decide (a ∈ l))) ∧ w = w' := by
 have HR := Lib.hid hr
 have HM := Lib.hid hM
 clear hr hM
 go_enter Try.func33, Try.ntmps33
 go_wp2
 go_loopw [5] (fun s5 wx => ∃ j : Nat, j ≤ M ∧ s5 = .int .i64 j ∧ Hid (a ∉ l.take j) ∧ wx = w) (fun s5 _ => M - (intOf s5).toNat)
 case atStart => exact ⟨0, Nat.zero_le _, rfl, Lib.hid (by simp), rfl⟩
 case round =>
  obtain ⟨j, hjM, rfl, HN, rfl⟩ := hrel
  by_cases hlt : j < M
  ·obtain ⟨ad, rfl, hcj⟩ := HR.out j (by rw [HM.out]; exact hlt)
   obtain ⟨x, hx⟩ : ∃ x, l[j]? = some x := ⟨_, List.getElem?_eq_getElem (by rw [HM.out]; exact hlt)⟩
   have cj : wr.cell? (ad.add j) = some (.int .u32 (x : Int)) := by
    rw [hcj, List.getD_eq_getElem?_getD, hx]
    rfl
   have HX := Lib.hid hx
   clear hcj hx
   by_cases hxa : x = a
   ·have b1 : ((x : Int) == (a : Int)) = true := beq_iff_eq.mpr (by rw [hxa])
    have HXA := Lib.hid hxa
    clear hxa
    go_wp2
    go_ret
    refine ⟨?_, rfl⟩
    rw [show decide (a ∈ l) = true from decide_eq_true (by rw [← HXA.out]; exact List.mem_of_getElem? HX.out)]
    rfl
   ·have b1 : ((x : Int) == (a : Int)) = false := beq_eq_false_iff_ne.mpr (by omega)
    have HXA := Lib.hid hxa
    clear hxa
    go_wp2
    refine ⟨⟨j + 1, by omega, by go_num, Lib.hid ?_, trivial⟩, by simp [intOf]; omega⟩
    rw [List.take_add_one, HX.out]
    intro h
    rcases List.mem_append.1 h with h | h
    ·exact HN.out h
    ·simp at h
     exact HXA.out h.symm
  ·obtain rfl : M = j := by omega
   go_wp2
   go_ret
   refine ⟨?_, rfl⟩
   rw [show decide (a ∈ l) = false from decide_eq_false (by have := HN.out; rwa [List.take_of_length_le (by rw [HM.out]; exact Nat.le_refl _)] at this)]
   rfl
theorem OwnU.rdo {w : World} {base n c : Nat} {o : Option Addr} {l : List Nat} (h : OwnU w base (.slice o n c) l) : RdU w o l := by
 obtain ⟨o', c', e, _, hr⟩ := h.opt
 injection e with e1 e2 e3
 rw [e1]
 exact hr
abbrev rAtC (n0 : Nat) (w : World) (B E : Int) (A : Option Addr) (n cap : Nat) (S : Int) (I : Nat → Ins × Int) : Prop := ∀ (a : Nat) (w' : World), a < 4294967296 → Below n0 w w' → Calls Try.prog 25 #[imv B E A n cap S, .int .u32 (a : Int)] w' fun e w'' => e = .returned (.tuple #[iv (I a).1, .int .i64 (I a).2]) ∧ Below w'.heap.size w' w''
abbrev rAfterC (aft : Ins → Nat → List Nat) : Prop := ∀ op rd u v m a w, a < 4294967296 → Calls Try.prog 14 #[iv (op, rd, u, v, m), .int .u32 ((a : Nat) : Int)] w fun e w' => ∃ y, e = .returned y ∧ OwnU w' w.heap.size y (aft (op, rd, u, v, m) a) ∧ Below w.heap.size w w'
abbrev rEndsC (nd : Ins → Bool) : Prop := ∀ op rd u v m w, Calls Try.prog 16 #[iv (op, rd, u, v, m)] w fun e w' => e = .returned (.bool (nd (op, rd, u, v, m))) ∧ Below w.heap.size w w'
structure RdSt (n0 : Nat) (w wx : World) (B E : Int) (A : Option Addr) (n cap : Nat) (S : Int) (v : Value) (l : List Nat) : Prop where
 box : wx.heap[w.heap.size]? = some (.cells #[.int .u32 B, .int .u32 E, .slice A n cap, .int .i64 S] 32 (0, 0))
 own : OwnU wx n0 v l
 bel : Below w.heap.size w wx
 lo : w.heap.size < n0
 hi : n0 ≤ wx.heap.size
theorem RdSt.below {n0 : Nat} {w wx wy : World} {B E : Int} {A : Option Addr} {n cap : Nat} {S : Int} {v : Value} {l : List Nat} (h : RdSt n0 w wx B E A n cap S v l) (hb : Below wx.heap.size wx wy) : RdSt n0 w wy B E A n cap S v l :=
 ⟨(hb.block w.heap.size (by have := h.lo; have := h.hi; omega)).trans h.box, OwnU.kept' h.own (grownB' hb none) (by rintro k ⟨⟩), h.bel.trans (hb.mono h.bel.size), h.lo, Nat.le_trans h.hi hb.size⟩
theorem RdSt.app {n0 : Nat} {w wx wy : World} {B E : Int} {A : Option Addr} {n cap : Nat} {S : Int} {v v' : Value} {l l' : List Nat} (h : RdSt n0 w wx B E A n cap S v l) (ho : OwnU wy n0 v' l') (hg : wx.grownBy wy v.ownBlock) : RdSt n0 w wy B E A n cap S v' l' :=
 ⟨(hg.block w.heap.size (by have := h.lo; have := h.hi; omega) (fun e => by have := (World.ownsRow.lt h.own _ e.symm).1; have := h.lo; omega)).trans h.box, ho, h.bel.grown hg h.bel.size (fun k hk => by have := (World.ownsRow.lt h.own k hk).1; have := h.lo; omega), h.lo, Nat.le_trans h.hi hg.size⟩
theorem RdSt.sl {n0 : Nat} {w wx : World} {B E : Int} {A : Option Addr} {n cap : Nat} {S : Int} {v : Value} {l : List Nat} (h : RdSt n0 w wx B E A n cap S v l) : ∃ o c, v = .slice o l.length c ∧ l.length ≤ c ∧ RdU wx o l := h.own.opt
theorem RdSt.pos {n0 : Nat} {w wx : World} {B E : Int} {A : Option Addr} {n cap : Nat} {S : Int} {v : Value} {l : List Nat} (h : RdSt n0 w wx B E A n cap S v l) (hp : 0 < l.length) : ∃ g c, v = .slice (some ⟨g, 0, none⟩) l.length c ∧ l.length ≤ c ∧ g < wx.heap.size := by
 obtain ⟨o, c, e, hle, _⟩ := h.own.opt
 rcases h.own.2 with ⟨_, h2⟩ | ⟨g, cap', cur, e2, _⟩
 ·omega
 ·have hlt := (World.ownsRow.lt h.own g (by rw [e2]; rfl)).2
  rw [e2] at e
  injection e with e3 e4 e5
  exact ⟨g, cap', e2, by rw [e5]; exact hle, hlt⟩
theorem wp_app1 {w : World} {ops : Array Oper} {rest : List Oper} {o : Oper} {ac : Act} {Q : Exit → Act → World → Prop} (hg : o.guard = none) (s x : Operand) (hop : o.op = .call { callee := .builtin .append, args := #[s, x], argTypes := #[27, 27] })
  (base : Nat) (v : Value) (l : List Nat) (a : Nat) (hs : ac.eval s = v) (hown : OwnU w base v l) (cap : Nat) (hx : ac.eval x = .slice (some ⟨w.heap.size, 0, none⟩) 1 cap) (hl : l.length < 100000000) (hbase : base ≤ w.heap.size)
  (hK : ∀ v' w', OwnU w' base v' (l ++ [a]) → w.grownBy w' v.ownBlock → (v'.ownBlock = v.ownBlock ∨ v'.ownBlock = some (w.heap.size + 1)) → wpList Try.prog ops Q rest (ac.put o.dst v') w') :
  wpList Try.prog ops Q (o :: rest) ac (w.alloc (.cells #[.int .u32 (a : Int)] 24)) := by
 obtain ⟨i0, hi, hz0, hz1, hz2⟩ := info_parts infoU
 refine wpList_append_own_at _ hg s x _ hop base _ i0 _ 1 4 Try.underlying27 hi hz0 hz1 hz2 rfl (by decide) v l.length (l.map uc) hs (hown.alloc _) ⟨w.heap.size, 0, none⟩ 1 cap [.int .u32 (a : Int)] hx rfl (cells_new w #[.int .u32 (a : Int)] _) (by simp [Value.oneCell']) (by unfold maxLen; omega) (by omega) (by simp; omega) ?_
 intro v' w' h1 h2 _ h4
 refine hK v' w' ?_ ((World.grownBy_alloc w _ _).trans h2) (by rw [World.size_alloc] at h4; exact h4)
 show w'.ownsRow base _ 1 v' (l ++ [a]).length ((l ++ [a]).map uc)
 rw [List.map_append, List.length_append]
 exact h1
set_option maxHeartbeats 8000000 in
theorem Reached_calls (B : Int) (E : Nat) (A : Option Addr) (len cap : Nat) (S : Int) (I : Nat → Ins × Int) (aft : Ins → Nat → List Nat) (es V : List Nat) (w : World) (A1 : Option Addr) (M c1 : Nat)
  (afterC : rAfterC aft) (atC : rAtC w.heap.size w B E A len cap S I) (ha2 : ∀ x a, (aft x a).length ≤ 2 ∧ ∀ b ∈ aft x a, b < 4294967296) (hr : RdU w A1 es) (hM : es.length = M) (hE : E < 4294967296) (hes : ∀ a ∈ es, a < 4294967296) (hV : ∀ a, (I a).2 = 0 → a ∈ V) (hfew : M + 1 + 2 * V.length < 100000) :
  Calls Try.prog 32 #[imv B E A len cap S, .slice A1 M c1] w fun e w' => ∃ v, e = .returned v ∧ ∃ R, OwnU w' w.heap.size v R ∧ RInvD I aft (es ++ [E]) R R.length ∧ R.length < 100000 ∧ (∀ a ∈ R, a < 4294967296) ∧ Below w.heap.size w w' := by
 have AF := Lib.hid afterC
 have AT := Lib.hid atC
 have A2 := Lib.hid ha2
 have HR := Lib.hid hr
 have HM := Lib.hid hM
 have HES := Lib.hid hes
 have HV := Lib.hid hV
 have HF := Lib.hid hfew
 have hMb : M < 100000 := by omega
 clear afterC atC ha2 hr hM hes hV hfew
 go_enter Try.func32, Try.ntmps32
 go_wp2
 obtain ⟨W0, hW0⟩ : ∃ W0, W0 = (w.alloc (.cells #[.int .u32 B, .int .u32 (E : Int), .slice A len cap, .int .i64 S] 32)).alloc (.cells #[.int .u32 (E : Int)] 24) := ⟨_, rfl⟩
 try rw [← hW0]
 have HS0 : Hid (RdSt (w.heap.size + 1) w W0 B E A len cap S (.slice (some ⟨w.heap.size + 1, 0, none⟩) 1 1) [E]) := Lib.hid (by
  rw [hW0]
  refine ⟨?_, ?_, ((Below.refl _ w).alloc (Nat.le_refl _) _).alloc (by simp) _, Nat.lt_succ_self _, by simp⟩
  ·rw [heap_old _ _ _ (by simp)]
   exact (MapKept.heap_alloc w _).1
  ·have := row1 (w.alloc (.cells #[.int .u32 B, .int .u32 (E : Int), .slice A len cap, .int .i64 S] 32)) E
   rw [World.size_alloc] at this
   exact this)
 clear hW0
 obtain ⟨n0, hn0⟩ : ∃ n0, n0 = w.heap.size + 1 := ⟨_, rfl⟩
 rw [← hn0] at HS0 ⊢
 clear hn0
 go_loopw [5, 6] (fun s5 s6 wx => ∃ (j : Nat) (l : List Nat), j ≤ M ∧ s6 = .int .i64 j ∧ Hid (l = addl [E] (es.take j)) ∧ Hid (RdSt n0 w wx B E A len cap S s5 l)) (fun _ s6 _ => M - (intOf s6).toNat)
 case atStart => exact ⟨0, [E], Nat.zero_le _, rfl, Lib.hid rfl, HS0⟩
 case round =>
  clear HS0
  obtain ⟨j, l, hjM, rfl, HL, HS⟩ := hrel
  obtain ⟨o, c, rfl, hlc, hrl⟩ := HS.out.sl
  have hlb : l.length ≤ M + 1 := by
   rw [HL.out]
   obtain ⟨m, e, hm⟩ := addl_pre (es.take j) [E]
   rw [e, List.length_append]
   have : (es.take j).length ≤ M := by rw [← HM.out]; exact List.length_take_le' _ _
   simp
   omega
  by_cases hlt : j < M
  ·obtain ⟨x, hx⟩ : ∃ x, es[j]? = some x := ⟨_, List.getElem?_eq_getElem (by rw [HM.out]; exact hlt)⟩
   obtain ⟨ad, rfl, hcj⟩ := (HR.out.below HS.out.bel) j (by rw [HM.out]; exact hlt)
   have cj : wr.cell? (ad.add j) = some (.int .u32 (x : Int)) := by
    rw [hcj, List.getD_eq_getElem?_getD, hx]
    rfl
   have HX := Lib.hid hx
   have HRL := Lib.hid hrl
   obtain ⟨N, hN⟩ : ∃ N, l.length = N := ⟨_, rfl⟩
   rw [hN] at hlb hlc HS ⊢
   have HN := Lib.hid hN
   clear hcj hx hrl hN
   go_wp2_with (go_at_call 33; refine hold_ ?_)
   intro _
   refine (has_calls o c N l x wr HRL.out HN.out (by omega)).mono ?_
   rintro e w1 ⟨rfl, rfl⟩
   have HLn : Hid (addl [E] (es.take (j + 1)) = addn l x) := Lib.hid (by
    rw [List.take_add_one, HX.out]
    show addl [E] (es.take j ++ [x]) = _
    rw [addl_snoc, HL.out])
   by_cases hxl : x ∈ l
   ·rw [show decide (x ∈ l) = true from decide_eq_true hxl]
    have HXL := Lib.hid hxl
    clear hxl
    go_wp2
    refine ⟨⟨j + 1, l, by omega, by go_num, Lib.hid ?_, HS⟩, by simp [intOf]; omega⟩
    rw [HLn.out]
    unfold addn
    rw [if_pos HXL.out]
   ·rw [show decide (x ∈ l) = false from decide_eq_false hxl]
    have HXL := Lib.hid hxl
    clear hxl
    go_wp2_with (refine wp_appU rfl _ _ rfl n0 (.slice o N c) l [x] (some ⟨wr.heap.size, 0, none⟩) 1 1 rfl rfl (OwnU.kept' HS.out.own (alloc_grown wr _ none) (by rintro k ⟨⟩)) rfl (OwnU.rd (row1 wr x)) (by rw [HN.out]; omega) (by simp) (by have := HS.out.hi; simp; omega) ?_; intro v2 w2 ho2 hg2)
    refine ⟨⟨j + 1, l ++ [x], by omega, by go_num, Lib.hid ?_, Lib.hid ?_⟩, by simp [intOf]; omega⟩
    ·rw [HLn.out]
     unfold addn
     rw [if_neg HXL.out]
    ·exact HS.out.app ho2 ((World.grownBy_alloc wr _ _).trans hg2)
  ·obtain rfl : M = j := by omega
   have HI : Hid (RInvD I aft (es ++ [E]) l 0 ∧ ∀ a ∈ l, a < 4294967296) := Lib.hid (by
    have e : l = addl [E] es := by rw [HL.out, List.take_of_length_le (by rw [HM.out]; exact Nat.le_refl _)]
    rw [e]
    refine ⟨⟨addl_nodup _ _ (by simp), fun a ha => Rch.base ?_, fun a ha => (addl_mem _ _ _).2 ?_, fun j a hj => absurd hj (Nat.not_lt_zero _)⟩, fun a ha => ?_⟩
    ·rcases (addl_mem _ _ _).1 ha with h | h
     ·simp at h; simp [h]
     ·simp [h]
    ·rcases List.mem_append.1 ha with h | h
     ·exact .inr h
     ·exact .inl h
    ·rcases (addl_mem _ _ _).1 ha with h | h
     ·simp at h; omega
     ·exact HES.out a h)
   clear HL hlb hrl hlc
   go_wp2
   obtain ⟨LL, hLL⟩ : ∃ LL, LL = M + 1 + 2 * V.length := ⟨_, rfl⟩
   have hLb : LL < 100000 := by have := HF.out; omega
   have HLL := Lib.hid hLL
   clear hLL
   go_loopg [5, 7] LL (fun q s5 s7 wx => ∃ (k : Nat) (l : List Nat), LL ≤ q + k ∧ k ≤ l.length ∧ s7 = .int .i64 k ∧ Hid (RInvD I aft (es ++ [E]) l k ∧ ∀ a ∈ l, a < 4294967296) ∧ Hid (RdSt n0 w wx B E A len cap S s5 l))
   case atStart => exact ⟨0, l, Nat.le_refl _, Nat.zero_le _, rfl, HI, HS⟩
   case round =>
    clear HS HI
    obtain ⟨k, l, hgk, hkl, rfl, HI, HS⟩ := hrel
    have hlb : l.length ≤ LL := by
     have := HI.out.1.few HV.out (fun x a => (A2.out x a).1)
     rw [List.length_append, HM.out] at this
     rw [HLL.out]
     simpa using this
    obtain ⟨N, hN⟩ : ∃ N, l.length = N := ⟨_, rfl⟩
    have HN := Lib.hid hN
    by_cases hlt : k < N
    ·obtain ⟨g, c, rfl, hlc, hgl⟩ := HS.out.pos (by omega)
     rw [hN] at hlb hlc HS hkl
     simp only [hN]
     obtain ⟨a, ha⟩ : ∃ a, l[k]? = some a := ⟨_, List.getElem?_eq_getElem (by rw [hN]; exact hlt)⟩
     have HAL := Lib.hid (HI.out.2 a (List.mem_of_getElem? ha))
     have CK := Lib.hid (show wr.cell? ⟨g, k, none⟩ = some (.int .u32 (a : Int)) by
      rw [OwnU.cellAt HS.out.own k (by rw [hN]; exact hlt), List.getD_eq_getElem?_getD, ha]
      rfl)
     have HA := Lib.hid ha
     have GL := Lib.hid hgl
     obtain ⟨⟨o1, o2, o3, o4, o5⟩, hx5⟩ : ∃ x, (I a).1 = x := ⟨_, rfl⟩
     obtain ⟨ev, hev⟩ : ∃ e, (I a).2 = e := ⟨_, rfl⟩
     have HX5 := Lib.hid hx5
     have HEV := Lib.hid hev
     clear hN ha hx5 hev
     go_upto_region 10 with fail
     go_cut [8, 9] (fun sx se wx => ∃ gb : Nat, sx = .pointer (some ⟨gb, 0, none⟩) ∧ se = .int .i64 ev ∧ n0 ≤ gb ∧ Hid (wx.heap[gb]? = some (.cells #[.int .i64 o1, .int .i64 o2, .int .i64 o3, .int .i64 o4, .int .i64 o5] 23 (0, 0))) ∧ Hid (RdSt n0 w wx B E A len cap S (.slice (some ⟨g, 0, none⟩) N c) l) ∧ Hid (Below wr.heap.size wr wx))
     case first =>
      refine wp_region_held_drew (S := fun w' => w'.heap[w.heap.size]? = some (.cells #[.int .u32 B, .int .u32 (E : Int), .slice A len cap, .int .i64 S] 32 (0, 0)) ∧ w'.cell? (⟨g, k, none⟩) = some (.int .u32 (a : Int))) (by kernel_rfl) ⟨HS.out.box, CK.out⟩ (fun hHeld => ?_)
      refine rq (v := ?_) 0 42 rfl rfl (Or.inl ⟨by rfl, ?_⟩) hHeld ?_
      rotate_left
      ·(intro w hSw; obtain ⟨s0, s1⟩ := hSw; obtain ⟨t0, t1, t2, t3⟩ := cells4 s0; go_simp; try with_reducible rfl)
      simp only [Act.put, sa, s0', s1']
      refine rq (v := ?_) 1 43 rfl rfl (Or.inl ⟨by rfl, ?_⟩) hHeld ?_
      rotate_left
      ·(intro w hSw; obtain ⟨s0, s1⟩ := hSw; obtain ⟨t0, t1, t2, t3⟩ := cells4 s0; go_simp; try with_reducible rfl)
      simp only [Act.put, sa, s0', s1']
      refine rq (v := ?_) 2 44 rfl rfl (Or.inl ⟨by rfl, ?_⟩) hHeld ?_
      rotate_left
      ·(intro w hSw; obtain ⟨s0, s1⟩ := hSw; obtain ⟨t0, t1, t2, t3⟩ := cells4 s0; go_simp; try with_reducible rfl)
      simp only [Act.put, sa, s0', s1']
      refine rq (v := ?_) 3 45 rfl rfl (Or.inl ⟨by rfl, ?_⟩) hHeld ?_
      rotate_left
      ·(intro w hSw; obtain ⟨s0, s1⟩ := hSw; obtain ⟨t0, t1, t2, t3⟩ := cells4 s0; go_simp; try with_reducible rfl)
      simp only [Act.put, sa, s0', s1']
      refine rq (v := ?_) 4 46 rfl rfl (Or.inl ⟨by rfl, ?_⟩) hHeld ?_
      rotate_left
      ·(intro w hSw; obtain ⟨s0, s1⟩ := hSw; obtain ⟨t0, t1, t2, t3⟩ := cells4 s0; go_simp; try with_reducible rfl)
      simp only [Act.put, sa, s0', s1']
      have HD := Lib.hid (HS.out.below (Below.refl wr.heap.size wr).drew)
      have HBd := Lib.hid ((Below.refl wr.heap.size wr).drew)
      have kS : ∀ W, Below wr.heap.size wr W → W.heap[w.heap.size]? = some (.cells #[.int .u32 B, .int .u32 (E : Int), .slice A len cap, .int .i64 S] 32 (0, 0)) ∧ W.cell? (⟨g, k, none⟩) = some (.int .u32 (a : Int)) := fun W hW => ⟨(HS.out.below hW).box, (hW.cell (p := ⟨g, k, none⟩) GL.out).trans CK.out⟩
      have KS := Lib.hid kS
      clear kS
      refine wpAnyH_ready (rs := [5, 9]) (by kernel_rfl) (by simp) ?_
      refine AllReadyH.cons (i := 5) rfl (fun KA hKA => ?_) (AllReadyH.cons (i := 9) rfl (fun KB hKB => ?_) AllReadyH.nil)
      ·go_simp
       refine (AT.out a wr.drew HAL.out HD.out.bel).mono ?_
       rintro e w1 ⟨rfl, hb1⟩
       rw [HX5.out, HEV.out]
       have hb1' := HBd.out.trans hb1
       go_wp2_with fail
       refine hKA.out _ _ (KS.out _ hb1') (fun hHeld => ?_)
       clear hKA KA
       try simp only [Act.put, sa, s0', s1']
       refine rq (v := ?_) 6 41 rfl rfl (Or.inl ⟨by rfl, ?_⟩) hHeld ?_
       rotate_left
       ·(intro w hSw; clear hSw; go_simp; try with_reducible rfl)
       simp only [Act.put, sa, s0', s1']
       refine rq (v := ?_) 7 48 rfl rfl (Or.inl ⟨by rfl, ?_⟩) hHeld ?_
       rotate_left
       ·(intro w hSw; clear hSw; go_simp; try with_reducible rfl)
       simp only [Act.put, sa, s0', s1']
       refine rq (v := ?_) 8 49 rfl rfl (Or.inl ⟨by rfl, ?_⟩) hHeld ?_
       rotate_left
       ·(intro w hSw; clear hSw; go_simp; try with_reducible rfl)
       simp only [Act.put, sa, s0', s1']
       refine wpAnyH_ready (rs := [9]) (by kernel_rfl) (by simp) ?_
       refine AllReadyH.cons (i := 9) rfl (fun KA hKA => ?_) AllReadyH.nil
       go_simp
       refine absK (F := fun W => W = w1.alloc (.cells #[.int .i64 0, .int .i64 0, .int .i64 0, .int .i64 0, .int .i64 0] 23)) rfl ?_
       rintro W2 hW2
       have k1 : Below wr.heap.size wr W2 := by rw [hW2]; exact hb1'.alloc hb1'.size _
       obtain ⟨gb, hgb⟩ : ∃ gb, gb = w1.heap.size := ⟨_, rfl⟩
       have kz : W2.heap[gb]? = some (.cells #[.int .i64 0, .int .i64 0, .int .i64 0, .int .i64 0, .int .i64 0] 23 (0, 0)) := by rw [hW2, hgb]; exact (MapKept.heap_alloc w1 _).1
       have hge : wr.heap.size ≤ gb := by rw [hgb]; exact hb1'.size
       rw [← hgb]
       clear hW2 hgb
       refine hKA.out _ _ (KS.out _ k1) (fun hHeld => ?_)
       clear hKA KA
       try simp only [Act.put, sa, s0', s1']
       refine wpAnyH_ready (rs := [10]) (by kernel_rfl) (by simp) ?_
       refine AllReadyH.cons (i := 10) rfl (fun KA hKA => ?_) AllReadyH.nil
       rw [if_pos (by rfl)]
       refine wp_store_row 23 _ _ rfl gb #[.int .i64 o1, .int .i64 o2, .int .i64 o3, .int .i64 o4, .int .i64 o5] rfl rfl 23 _ kz infoN rfl (by simp [Value.oneCell']) ?_
       have hr1 := setRow_heap W2 gb _ #[.int .i64 o1, .int .i64 o2, .int .i64 o3, .int .i64 o4, .int .i64 o5] _ _ kz
       have hg5 := grownBy_setRow W2 gb #[.int .i64 o1, .int .i64 o2, .int .i64 o3, .int .i64 o4, .int .i64 o5]
       have hbw : Below wr.heap.size wr (W2.setRow gb #[.int .i64 o1, .int .i64 o2, .int .i64 o3, .int .i64 o4, .int .i64 o5]) := k1.grown hg5 k1.size (by rintro k' ⟨⟩; exact hge)
       refine hKA.out _ _ (KS.out _ hbw) (fun hHeld => ?_)
       clear hKA KA
       try simp only [Act.put, sa, s0', s1']
       refine rq (v := ?_) 11 9 rfl rfl (Or.inl ⟨by rfl, ?_⟩) hHeld ?_
       rotate_left
       ·(intro w hSw; clear hSw; go_simp; try with_reducible rfl)
       simp only [Act.put, sa, s0', s1']
       refine wpAnyH_done (by kernel_rfl) ?_ _
       have HR1 := Lib.hid hr1
       have HBW := Lib.hid hbw
       clear hr1 hbw hg5 kz k1
       go_wp2
       go_meet
       case rel => exact ⟨gb, rfl, rfl, Nat.le_trans HS.out.hi hge, HR1, Lib.hid (HS.out.below HBW.out), HBW⟩
      ·go_simp
       refine absK (F := fun W => W = wr.drew.alloc (.cells #[.int .i64 0, .int .i64 0, .int .i64 0, .int .i64 0, .int .i64 0] 23)) rfl ?_
       rintro W1 hW1
       have k1 : Below wr.heap.size wr W1 := by rw [hW1]; exact HBd.out.alloc HBd.out.size _
       obtain ⟨gb, hgb⟩ : ∃ gb, gb = wr.heap.size := ⟨_, rfl⟩
       have kz1 : W1.heap[gb]? = some (.cells #[.int .i64 0, .int .i64 0, .int .i64 0, .int .i64 0, .int .i64 0] 23 (0, 0)) := by rw [hW1, hgb]; exact (MapKept.heap_alloc wr.drew _).1
       have hge : wr.heap.size ≤ gb := by rw [hgb]; exact Nat.le_refl _
       have hgl : gb < W1.heap.size := by rw [hW1, hgb]; simp
       rw [← hgb]
       clear hW1 hgb
       refine hKB.out _ _ (KS.out _ k1) (fun hHeld => ?_)
       clear hKB KB
       try simp only [Act.put, sa, s0', s1']
       refine wpAnyH_ready (rs := [5]) (by kernel_rfl) (by simp) ?_
       refine AllReadyH.cons (i := 5) rfl (fun KA hKA => ?_) AllReadyH.nil
       go_simp
       refine (AT.out a W1 HAL.out (HS.out.below k1).bel).mono ?_
       rintro e W2 ⟨rfl, hb1⟩
       rw [HX5.out, HEV.out]
       have kz := (hb1.block gb hgl).trans kz1
       have k1' := k1.trans (hb1.mono k1.size)
       clear k1 kz1
       have k1 := k1'
       clear k1'
       go_wp2_with fail
       refine hKA.out _ _ (KS.out _ k1) (fun hHeld => ?_)
       clear hKA KA
       try simp only [Act.put, sa, s0', s1']
       refine rq (v := ?_) 6 41 rfl rfl (Or.inl ⟨by rfl, ?_⟩) hHeld ?_
       rotate_left
       ·(intro w hSw; clear hSw; go_simp; try with_reducible rfl)
       simp only [Act.put, sa, s0', s1']
       refine rq (v := ?_) 7 48 rfl rfl (Or.inl ⟨by rfl, ?_⟩) hHeld ?_
       rotate_left
       ·(intro w hSw; clear hSw; go_simp; try with_reducible rfl)
       simp only [Act.put, sa, s0', s1']
       refine rq (v := ?_) 8 49 rfl rfl (Or.inl ⟨by rfl, ?_⟩) hHeld ?_
       rotate_left
       ·(intro w hSw; clear hSw; go_simp; try with_reducible rfl)
       simp only [Act.put, sa, s0', s1']
       refine wpAnyH_ready (rs := [10]) (by kernel_rfl) (by simp) ?_
       refine AllReadyH.cons (i := 10) rfl (fun KA hKA => ?_) AllReadyH.nil
       rw [if_pos (by rfl)]
       refine wp_store_row 23 _ _ rfl gb #[.int .i64 o1, .int .i64 o2, .int .i64 o3, .int .i64 o4, .int .i64 o5] rfl rfl 23 _ kz infoN rfl (by simp [Value.oneCell']) ?_
       have hr1 := setRow_heap W2 gb _ #[.int .i64 o1, .int .i64 o2, .int .i64 o3, .int .i64 o4, .int .i64 o5] _ _ kz
       have hg5 := grownBy_setRow W2 gb #[.int .i64 o1, .int .i64 o2, .int .i64 o3, .int .i64 o4, .int .i64 o5]
       have hbw : Below wr.heap.size wr (W2.setRow gb #[.int .i64 o1, .int .i64 o2, .int .i64 o3, .int .i64 o4, .int .i64 o5]) := k1.grown hg5 k1.size (by rintro k' ⟨⟩; exact hge)
       refine hKA.out _ _ (KS.out _ hbw) (fun hHeld => ?_)
       clear hKA KA
       try simp only [Act.put, sa, s0', s1']
       refine rq (v := ?_) 11 9 rfl rfl (Or.inl ⟨by rfl, ?_⟩) hHeld ?_
       rotate_left
       ·(intro w hSw; clear hSw; go_simp; try with_reducible rfl)
       simp only [Act.put, sa, s0', s1']
       refine wpAnyH_done (by kernel_rfl) ?_ _
       have HR1 := Lib.hid hr1
       have HBW := Lib.hid hbw
       clear hr1 hbw hg5 kz k1
       go_wp2
       go_meet
       case rel => exact ⟨gb, rfl, rfl, Nat.le_trans HS.out.hi hge, HR1, Lib.hid (HS.out.below HBW.out), HBW⟩
     case rest =>
      obtain ⟨gb, rfl, rfl, hgb, KX, HT, HB2⟩ := hcut
      clear hgl
      have hst := HI.out.1.step (I := I) (aft := aft) HA.out
      by_cases he : ev = 0
      ·have b1 : (ev == 0) = true := beq_iff_eq.mpr he
       have b2 : (ev != 0) = false := by simp [he]
       have HE := Lib.hid he
       have hst' : Hid (RInvD I aft (es ++ [E]) (addl l (aft (o1, o2, o3, o4, o5) a)) (k + 1)) := Lib.hid (by
        have h := hst
        unfold rstepD at h
        rw [HEV.out, HX5.out, if_neg (by rw [he]; simp)] at h
        exact h)
       clear he hst
       have CK2 := Lib.hid ((HB2.out.cell (p := ⟨g, k, none⟩) GL.out).trans CK.out)
       have hgb2 : gb < wc.heap.size := (Array.getElem?_eq_some_iff.1 KX.out).1
       have hgr : g < wc.heap.size := Nat.lt_of_lt_of_le GL.out HB2.out.size
       go_wp2
       refine wp_region_held_drew (S := fun w' => w'.heap[gb]? = some (.cells #[.int .i64 o1, .int .i64 o2, .int .i64 o3, .int .i64 o4, .int .i64 o5] 23 (0, 0)) ∧ w'.cell? ⟨g, k, none⟩ = some (.int .u32 (a : Int))) (by kernel_rfl) ⟨KX.out, CK2.out⟩ (fun hHeld => ?_)
       refine rq (v := ?_) 0 52 rfl rfl (Or.inl ⟨by rfl, ?_⟩) hHeld ?_
       rotate_left
       ·(intro w hSw; obtain ⟨s0, s1⟩ := hSw; obtain ⟨t0, t1, t2, t3, t4⟩ := cells5 (x := (o1, o2, o3, o4, o5)) s0; try simp only at t0 t1 t2 t3 t4; go_simp; try with_reducible rfl)
       simp only [Act.put, sa, s0', s1']
       refine rq (v := ?_) 1 53 rfl rfl (Or.inl ⟨by rfl, ?_⟩) hHeld ?_
       rotate_left
       ·(intro w hSw; obtain ⟨s0, s1⟩ := hSw; obtain ⟨t0, t1, t2, t3, t4⟩ := cells5 (x := (o1, o2, o3, o4, o5)) s0; try simp only at t0 t1 t2 t3 t4; go_simp; try with_reducible rfl)
       simp only [Act.put, sa, s0', s1']
       refine rq (v := ?_) 2 54 rfl rfl (Or.inl ⟨by rfl, ?_⟩) hHeld ?_
       rotate_left
       ·(intro w hSw; obtain ⟨s0, s1⟩ := hSw; obtain ⟨t0, t1, t2, t3, t4⟩ := cells5 (x := (o1, o2, o3, o4, o5)) s0; try simp only at t0 t1 t2 t3 t4; go_simp; try with_reducible rfl)
       simp only [Act.put, sa, s0', s1']
       refine rq (v := ?_) 3 55 rfl rfl (Or.inl ⟨by rfl, ?_⟩) hHeld ?_
       rotate_left
       ·(intro w hSw; obtain ⟨s0, s1⟩ := hSw; obtain ⟨t0, t1, t2, t3, t4⟩ := cells5 (x := (o1, o2, o3, o4, o5)) s0; try simp only at t0 t1 t2 t3 t4; go_simp; try with_reducible rfl)
       simp only [Act.put, sa, s0', s1']
       refine rq (v := ?_) 4 56 rfl rfl (Or.inl ⟨by rfl, ?_⟩) hHeld ?_
       rotate_left
       ·(intro w hSw; obtain ⟨s0, s1⟩ := hSw; obtain ⟨t0, t1, t2, t3, t4⟩ := cells5 (x := (o1, o2, o3, o4, o5)) s0; try simp only at t0 t1 t2 t3 t4; go_simp; try with_reducible rfl)
       simp only [Act.put, sa, s0', s1']
       refine wpAnyH_ready (rs := [5]) (by kernel_rfl) (by simp) ?_
       refine AllReadyH.cons (i := 5) rfl (fun K hK => ?_) AllReadyH.nil
       go_simp
       refine (AF.out o1 o2 o3 o4 o5 a wc.drew HAL.out).mono ?_
       rintro e w3 ⟨y, rfl, hoy, hb3⟩
       obtain ⟨m, hm⟩ : ∃ m, aft (o1, o2, o3, o4, o5) a = m := ⟨_, rfl⟩
       have hm2 := A2.out (o1, o2, o3, o4, o5) a
       rw [hm] at hoy hm2 hst'
       obtain ⟨oy, cy, rfl, hcy, -⟩ := hoy.opt
       have HM2 := Lib.hid hm2.2
       have hK2 := hm2.1
       obtain ⟨Km, hKm⟩ : ∃ q, m.length = q := ⟨_, rfl⟩
       rw [hKm] at hoy hcy hK2
       simp only [hKm]
       have HKm := Lib.hid hKm
       have HOY := Lib.hid hoy
       have hb3' : Below wc.heap.size wc w3 := (Below.refl wc.heap.size wc).drew.trans hb3
       have HT3 := Lib.hid (HT.out.below hb3')
       have hne : Hid (∀ q, (Value.slice (some ⟨g, 0, none⟩) N c).ownBlock = some q → (Value.slice oy Km cy).ownBlock ≠ some q) := Lib.hid (by
        intro q hq hy
        have h1 := (World.ownsRow.lt hoy q hy).1
        have h2 : g = q := by simpa [Value.ownBlock] using hq
        have h3 : wc.drew.heap.size = wc.heap.size := rfl
        omega)
       go_wp2_with fail
       refine hK.out _ _ ⟨(hb3'.block gb hgb2).trans KX.out, (hb3'.cell (p := ⟨g, k, none⟩) hgr).trans CK2.out⟩ (fun hHeld => ?_)
       clear hK K
       try simp only [Act.put, sa, s0', s1']
       refine rq (v := ?_) 6 10 rfl rfl (Or.inl ⟨by rfl, ?_⟩) hHeld ?_
       rotate_left
       ·(intro w hSw; clear hSw; go_simp; try with_reducible rfl)
       simp only [Act.put, sa, s0', s1']
       refine wpAnyH_done (by kernel_rfl) ?_ _
       clear hHeld hb3 hb3' hoy hm hm2 hKm KX CK2 HT hgb hgb2 hgr hlc
       obtain ⟨w4, hw4⟩ : ∃ w4, wc = w4 := ⟨_, rfl⟩
       rw [hw4] at HOY
       clear hw4
       go_wp2
       go_loopw [5, 11] (fun s5 s11 wx => ∃ (j : Nat) (l2 : List Nat), j ≤ Km ∧ s11 = .int .i64 j ∧ Hid (l2 = addl l (m.take j)) ∧ Hid (RdSt n0 w wx B E A len cap S s5 l2) ∧ Hid (OwnU wx w4.drew.heap.size (.slice oy Km cy) m) ∧ Hid (∀ q, s5.ownBlock = some q → (Value.slice oy Km cy).ownBlock ≠ some q)) (fun _ s11 _ => Km - (intOf s11).toNat)
       case atStart => exact ⟨0, l, Nat.zero_le _, rfl, Lib.hid rfl, HT3, HOY, hne⟩
       case round =>
        clear HT3 HOY hne
        obtain ⟨j, l2, hjK, rfl, HL2, HT3, HOY, hne⟩ := hrel
        obtain ⟨o9, c9, rfl, hlc9, hrl9⟩ := HT3.out.sl
        have hlb9 : l2.length ≤ N + 2 := by
         rw [HL2.out]
         obtain ⟨mm, e, hmm⟩ := addl_pre (m.take j) l
         have h1 : (m.take j).length ≤ m.length := List.length_take_le' _ _
         rw [HKm.out] at h1
         rw [e, List.length_append, HN.out]
         omega
        obtain ⟨N2, hN2⟩ : ∃ q, l2.length = q := ⟨_, rfl⟩
        rw [hN2] at hlb9 hlc9 HT3 hne
        simp only [hN2]
        have HN2 := Lib.hid hN2
        have HRL := Lib.hid hrl9
        clear hN2 hrl9
        have hNb : N2 < 1000000 := by
         have h1 := HI.out.1.few HV.out (fun x a => (A2.out x a).1)
         have h2 := HF.out
         rw [List.length_append, HM.out, HN.out] at h1
         simp at h1
         omega
        by_cases hlt2 : j < Km
        ·obtain ⟨x, hx⟩ : ∃ x, m[j]? = some x := ⟨_, List.getElem?_eq_getElem (by rw [HKm.out]; exact hlt2)⟩
         obtain ⟨ad, rfl, hcj⟩ := HOY.out.rdo j (by rw [HKm.out]; exact hlt2)
         have cj : wr.cell? (ad.add j) = some (.int .u32 (x : Int)) := by
          rw [hcj, List.getD_eq_getElem?_getD, hx]
          rfl
         have HX := Lib.hid hx
         clear hcj hx
         go_wp2_with (go_at_call 33; refine hold_ ?_)
         intro _
         refine (has_calls o9 c9 N2 l2 x wr HRL.out HN2.out hNb).mono ?_
         rintro e w1 ⟨rfl, rfl⟩
         have HLn : Hid (addl l (m.take (j + 1)) = addn l2 x) := Lib.hid (by
          rw [List.take_add_one, HX.out]
          show addl l (m.take j ++ [x]) = _
          rw [addl_snoc, HL2.out])
         by_cases hxl : x ∈ l2
         ·rw [show decide (x ∈ l2) = true from decide_eq_true hxl]
          have HXL := Lib.hid hxl
          clear hxl
          go_wp2
          refine ⟨⟨j + 1, l2, by omega, by go_num, Lib.hid ?_, HT3, HOY, hne⟩, by simp [intOf]; omega⟩
          rw [HLn.out]
          unfold addn
          rw [if_pos HXL.out]
         ·rw [show decide (x ∈ l2) = false from decide_eq_false hxl]
          have HXL := Lib.hid hxl
          clear hxl
          go_wp2_with (refine wp_app1 rfl _ _ rfl n0 (.slice o9 N2 c9) l2 x rfl HT3.out.own 1 rfl (by rw [HN2.out]; omega) HT3.out.hi ?_; intro v2 w2 ho2 hg2 hv2)
          have hkey : ∀ q, v2.ownBlock = some q → (Value.slice (some ad) Km cy).ownBlock ≠ some q := by
           intro q hq hy
           rcases hv2 with h | h
           ·exact hne.out q (by rw [← h]; exact hq) hy
           ·have h1 := (World.ownsRow.lt HOY.out q hy).2
            rw [h] at hq
            injection hq with hq
            omega
          have hoy2 := OwnU.kept' HOY.out hg2 (fun q hq => .inr (hne.out q hq))
          refine ⟨⟨j + 1, l2 ++ [x], by omega, by go_num, Lib.hid ?_, Lib.hid (HT3.out.app ho2 hg2), Lib.hid hoy2, Lib.hid hkey⟩, by simp [intOf]; omega⟩
          rw [HLn.out]
          unfold addn
          rw [if_neg HXL.out]
        ·obtain rfl : Km = j := by omega
         have hst2 : Hid (RInvD I aft (es ++ [E]) l2 (k + 1)) := Lib.hid (by
          have h := hst'.out
          rw [HL2.out, List.take_of_length_le (by rw [HKm.out]; exact Nat.le_refl _)]
          exact h)
         have hall2 : Hid (∀ a ∈ l2, a < 4294967296) := Lib.hid (fun b hb => by
          rw [HL2.out, addl_mem] at hb
          rcases hb with hb | hb
          ·exact HI.out.2 b hb
          ·exact HM2.out b (List.mem_of_mem_take hb))
         have hkl2 : k + 1 ≤ l2.length := by
          obtain ⟨mm, e, hmm⟩ := addl_pre (m.take Km) l
          rw [HL2.out, e, List.length_append, HN.out]
          omega
         go_wp2
         go_roundg (gk - 1)
         case measure => omega
         case rel => exact ⟨k + 1, l2, by omega, hkl2, by go_num, Lib.hid ⟨hst2.out, hall2.out⟩, HT3⟩
      ·have b1 : (ev == 0) = false := beq_eq_false_iff_ne.mpr he
       have b2 : (ev != 0) = true := by simp [he]
       have hst' : Hid (RInvD I aft (es ++ [E]) l (k + 1)) := Lib.hid (by
        have h := hst
        unfold rstepD at h
        rw [HEV.out, if_pos he] at h
        exact h)
       clear he hst
       go_wp2
       go_roundg (gk - 1)
       case measure => omega
       case rel => exact ⟨k + 1, l, by omega, by rw [HN.out]; omega, by go_num, Lib.hid ⟨hst'.out, HI.out.2⟩, HT⟩
    ·have hkN : k = N := by omega
     obtain ⟨o, c, rfl, hlc, hrl⟩ := HS.out.sl
     simp only [hN] at hlb hlc HS hkl ⊢
     have hnlt : ¬ ((k : Int) < (N : Int)) := by omega
     clear hN hrl
     go_wp2
     go_ret
     refine ⟨_, rfl, l, ?_, ?_, by rw [HN.out]; omega, HI.out.2, HS.out.bel⟩
     ·exact OwnU.lower (by have := HS.out.own; exact this) (by have := HS.out.lo; omega)
     ·rw [HN.out, ← hkN]
      exact HI.out.1
def LeadP (I : Nat → Ins × Int) (aft : Ins → Nat → List Nat) (nd : Ins → Bool) (E : Nat) (es R : List Nat) (a : Nat) : Prop := a = E ∨ a ∈ es ∨ ∃ b ∈ R, (I b).2 = 0 ∧ nd (I b).1 = true ∧ a ∈ aft (I b).1 b
def LeadPost (I : Nat → Ins × Int) (aft : Ins → Nat → List Nat) (nd : Ins → Bool) (E : Nat) (es R : List Nat) (a : Nat) (w : World) (e : Ending) (w' : World) : Prop := ∃ q, e = .returned (.bool q) ∧ (q = true ↔ LeadP I aft nd E es R a) ∧ Below w.heap.size w w'
theorem cell_lt {w : World} {p : Addr} {v : Value} (h : w.cell? p = some v) : p.block < w.heap.size := by
 unfold World.cell? at h
 split at h
 ·rename_i e
  exact (Array.getElem?_eq_some_iff.1 e).1
 ·cases h
theorem not_true {b : Bool} {p : Prop} (h : ¬ p) (hb : b = false) : b = true ↔ p := ⟨fun e => (by rw [hb] at e; cases e), fun e => absurd e h⟩
set_option maxHeartbeats 8000000 in
theorem leader_calls (B : Int) (E : Nat) (A : Option Addr) (len cap : Nat) (S : Int) (I : Nat → Ins × Int) (aft : Ins → Nat → List Nat) (nd : Ins → Bool) (es R : List Nat) (x : Nat) (w : World) (A1 : Option Addr) (M c1 : Nat) (A2 : Option Addr) (N c2 : Nat)
  (afterC : rAfterC aft) (endsC : rEndsC nd) (atC : rAtC w.heap.size w B E A len cap S I) (ha2 : ∀ x a, (aft x a).length ≤ 2) (hr1 : RdU w A1 es) (hM : es.length = M) (hMb : M < 100000) (hr2 : RdU w A2 R) (hN : R.length = N) (hNb : N < 100000) (hx : x < 4294967296) (hE : E < 4294967296) (hR : ∀ b ∈ R, b < 4294967296) :
  Calls Try.prog 34 #[imv B E A len cap S, .slice A1 M c1, .slice A2 N c2, .int .u32 (x : Int)] w (LeadPost I aft nd E es R x w) := by
 have AF := Lib.hid afterC
 have EN := Lib.hid endsC
 have AT := Lib.hid atC
 have AH := Lib.hid ha2
 have HR1 := Lib.hid hr1
 have HM := Lib.hid hM
 have HR2 := Lib.hid hr2
 have HN := Lib.hid hN
 have HRR := Lib.hid hR
 clear afterC endsC atC ha2 hr1 hM hr2 hN hR
 go_enter Try.func34, Try.ntmps34
 obtain ⟨W0, hW0⟩ : ∃ W0, W0 = w.alloc (.cells #[.int .u32 B, .int .u32 (E : Int), .slice A len cap, .int .i64 S] 32) := ⟨_, rfl⟩
 have HS0 : Hid (RdSt (w.heap.size + 1) w W0 B E A len cap S (.slice none 0 0) []) := Lib.hid (by
  rw [hW0]
  exact ⟨(MapKept.heap_alloc w _).1, World.ownsRow_nil _ _ _ _, (Below.refl _ w).alloc (Nat.le_refl _) _, Nat.lt_succ_self _, by simp⟩)
 have hbe : ∀ p : Prop, (x = E → p) → (x ≠ E → ((x : Int) == (E : Int)) = false → p) → p := fun p h1 h2 => by
  by_cases h : x = E
  ·exact h1 h
  ·exact h2 h (beq_eq_false_iff_ne.mpr (by omega))
 refine hbe _ (fun hxE => ?_) (fun hxE b1 => ?_)
 ·have b1 : ((x : Int) == (E : Int)) = true := beq_iff_eq.mpr (by rw [hxE])
  have HXE := Lib.hid hxE
  clear hxE hbe hW0 HS0
  go_wp2
  go_ret
  exact ⟨true, rfl, ⟨fun _ => .inl HXE.out, fun _ => rfl⟩, (Below.refl _ w).alloc (Nat.le_refl _) _⟩
 have HXE := Lib.hid hxE
 clear hxE hbe
 go_wp2_with (go_at_call 33; refine hold_ ?_)
 intro _
 try rw [← hW0]
 refine (has_calls A1 c1 M es x W0 (HR1.out.below HS0.out.bel) HM.out (by omega)).mono ?_
 rintro e w1 ⟨rfl, rfl⟩
 clear hW0
 by_cases hxe : x ∈ es
 ·rw [show decide (x ∈ es) = true from decide_eq_true hxe]
  have HXL := Lib.hid hxe
  clear hxe
  go_wp2
  go_ret
  exact ⟨true, rfl, ⟨fun _ => .inr (.inl HXL.out), fun _ => rfl⟩, HS0.out.bel⟩
 rw [show decide (x ∈ es) = false from decide_eq_false hxe]
 have HXL := Lib.hid hxe
 clear hxe
 obtain ⟨n0, hn0⟩ : ∃ n0, n0 = w.heap.size + 1 := ⟨_, rfl⟩
 rw [← hn0] at HS0
 clear hn0
 go_wp2
 go_loopg [9] N (fun q s9 wx => ∃ (k : Nat), N ≤ q + k ∧ k ≤ N ∧ s9 = .int .i64 k ∧ Hid (∀ b ∈ R.take k, ¬ ((I b).2 = 0 ∧ nd (I b).1 = true ∧ x ∈ aft (I b).1 b)) ∧ Hid (RdSt n0 w wx B E A len cap S (.slice none 0 0) []))
 case atStart => exact ⟨0, Nat.le_refl _, Nat.zero_le _, rfl, Lib.hid (fun b hb => by simp at hb), HS0⟩
 case round =>
  clear HS0
  obtain ⟨k, hgk, hkN, rfl, HNo, HS⟩ := hrel
  by_cases hlt : k < N
  ·obtain ⟨a, ha⟩ : ∃ a, R[k]? = some a := ⟨_, List.getElem?_eq_getElem (by rw [HN.out]; exact hlt)⟩
   obtain ⟨ad, rfl, hck⟩ := (HR2.out.below HS.out.bel) k (by rw [HN.out]; exact hlt)
   have ck : wr.cell? (ad.add k) = some (.int .u32 (a : Int)) := by
    rw [hck, List.getD_eq_getElem?_getD, ha]
    rfl
   have CK := Lib.hid ck
   have GL := Lib.hid (cell_lt ck)
   have HAL := Lib.hid (HRR.out a (List.mem_of_getElem? ha))
   have HA := Lib.hid ha
   obtain ⟨⟨o1, o2, o3, o4, o5⟩, hx5⟩ : ∃ x, (I a).1 = x := ⟨_, rfl⟩
   obtain ⟨ev, hev⟩ : ∃ e, (I a).2 = e := ⟨_, rfl⟩
   have HX5 := Lib.hid hx5
   have HEV := Lib.hid hev
   have step : ((ev = 0 ∧ nd (o1, o2, o3, o4, o5) = true ∧ x ∈ aft (o1, o2, o3, o4, o5) a) → LeadP I aft nd E es R x) ∧ (¬ (ev = 0 ∧ nd (o1, o2, o3, o4, o5) = true ∧ x ∈ aft (o1, o2, o3, o4, o5) a) → ∀ b ∈ R.take (k + 1), ¬ ((I b).2 = 0 ∧ nd (I b).1 = true ∧ x ∈ aft (I b).1 b)) := by
    refine ⟨fun h => .inr (.inr ⟨a, List.mem_of_getElem? ha, by rw [hev]; exact h.1, by rw [hx5]; exact h.2.1, by rw [hx5]; exact h.2.2⟩), fun h b hb => ?_⟩
    rw [List.take_add_one, ha] at hb
    rcases List.mem_append.1 hb with hb | hb
    ·exact HNo.out b hb
    ·simp at hb
     subst hb
     rw [hev, hx5]
     exact h
   have STEP := Lib.hid step
   clear ha hx5 hev hck ck step
   go_upto_region 6 with fail
   go_cut [10, 11] (fun sx se wx => ∃ gb : Nat, sx = .pointer (some ⟨gb, 0, none⟩) ∧ se = .int .i64 ev ∧ n0 ≤ gb ∧ Hid (wx.heap[gb]? = some (.cells #[.int .i64 o1, .int .i64 o2, .int .i64 o3, .int .i64 o4, .int .i64 o5] 23 (0, 0))) ∧ Hid (RdSt n0 w wx B E A len cap S (.slice none 0 0) []) ∧ Hid (Below wr.heap.size wr wx))
   case first =>
    refine wp_region_held_drew (S := fun w' => w'.heap[w.heap.size]? = some (.cells #[.int .u32 B, .int .u32 (E : Int), .slice A len cap, .int .i64 S] 32 (0, 0)) ∧ w'.cell? (ad.add k) = some (.int .u32 (a : Int))) (by kernel_rfl) ⟨HS.out.box, CK.out⟩ (fun hHeld => ?_)
    refine rq (v := ?_) 0 28 rfl rfl (Or.inl ⟨by rfl, ?_⟩) hHeld ?_
    rotate_left
    ·(intro w hSw; obtain ⟨s0, s1⟩ := hSw; obtain ⟨t0, t1, t2, t3⟩ := cells4 s0; go_simp; try with_reducible rfl)
    simp only [Act.put, sa, s0', s1']
    refine rq (v := ?_) 1 29 rfl rfl (Or.inl ⟨by rfl, ?_⟩) hHeld ?_
    rotate_left
    ·(intro w hSw; obtain ⟨s0, s1⟩ := hSw; obtain ⟨t0, t1, t2, t3⟩ := cells4 s0; go_simp; try with_reducible rfl)
    simp only [Act.put, sa, s0', s1']
    refine rq (v := ?_) 2 30 rfl rfl (Or.inl ⟨by rfl, ?_⟩) hHeld ?_
    rotate_left
    ·(intro w hSw; obtain ⟨s0, s1⟩ := hSw; obtain ⟨t0, t1, t2, t3⟩ := cells4 s0; go_simp; try with_reducible rfl)
    simp only [Act.put, sa, s0', s1']
    refine rq (v := ?_) 3 31 rfl rfl (Or.inl ⟨by rfl, ?_⟩) hHeld ?_
    rotate_left
    ·(intro w hSw; obtain ⟨s0, s1⟩ := hSw; obtain ⟨t0, t1, t2, t3⟩ := cells4 s0; go_simp; try with_reducible rfl)
    simp only [Act.put, sa, s0', s1']
    refine rq (v := ?_) 4 32 rfl rfl (Or.inl ⟨by rfl, ?_⟩) hHeld ?_
    rotate_left
    ·(intro w hSw; obtain ⟨s0, s1⟩ := hSw; obtain ⟨t0, t1, t2, t3⟩ := cells4 s0; go_simp; try with_reducible rfl)
    simp only [Act.put, sa, s0', s1']
    have HD := Lib.hid (HS.out.below (Below.refl wr.heap.size wr).drew)
    have HBd := Lib.hid ((Below.refl wr.heap.size wr).drew)
    have kS : ∀ W, Below wr.heap.size wr W → W.heap[w.heap.size]? = some (.cells #[.int .u32 B, .int .u32 (E : Int), .slice A len cap, .int .i64 S] 32 (0, 0)) ∧ W.cell? (ad.add k) = some (.int .u32 (a : Int)) := fun W hW => ⟨(HS.out.below hW).box, (hW.cell (p := ad.add k) GL.out).trans CK.out⟩
    have KS := Lib.hid kS
    clear kS
    refine wpAnyH_ready (rs := [5, 9]) (by kernel_rfl) (by simp) ?_
    refine AllReadyH.cons (i := 5) rfl (fun KA hKA => ?_) (AllReadyH.cons (i := 9) rfl (fun KB hKB => ?_) AllReadyH.nil)
    ·go_simp
     refine (AT.out a wr.drew HAL.out HD.out.bel).mono ?_
     rintro e w1 ⟨rfl, hb1⟩
     rw [HX5.out, HEV.out]
     have hb1' := HBd.out.trans hb1
     go_wp2_with fail
     refine hKA.out _ _ (KS.out _ hb1') (fun hHeld => ?_)
     clear hKA KA
     try simp only [Act.put, sa, s0', s1']
     refine rq (v := ?_) 6 27 rfl rfl (Or.inl ⟨by rfl, ?_⟩) hHeld ?_
     rotate_left
     ·(intro w hSw; clear hSw; go_simp; try with_reducible rfl)
     simp only [Act.put, sa, s0', s1']
     refine rq (v := ?_) 7 34 rfl rfl (Or.inl ⟨by rfl, ?_⟩) hHeld ?_
     rotate_left
     ·(intro w hSw; clear hSw; go_simp; try with_reducible rfl)
     simp only [Act.put, sa, s0', s1']
     refine rq (v := ?_) 8 35 rfl rfl (Or.inl ⟨by rfl, ?_⟩) hHeld ?_
     rotate_left
     ·(intro w hSw; clear hSw; go_simp; try with_reducible rfl)
     simp only [Act.put, sa, s0', s1']
     refine wpAnyH_ready (rs := [9]) (by kernel_rfl) (by simp) ?_
     refine AllReadyH.cons (i := 9) rfl (fun KA hKA => ?_) AllReadyH.nil
     go_simp
     refine absK (F := fun W => W = w1.alloc (.cells #[.int .i64 0, .int .i64 0, .int .i64 0, .int .i64 0, .int .i64 0] 23)) rfl ?_
     rintro W2 hW2
     have k1 : Below wr.heap.size wr W2 := by rw [hW2]; exact hb1'.alloc hb1'.size _
     obtain ⟨gb, hgb⟩ : ∃ gb, gb = w1.heap.size := ⟨_, rfl⟩
     have kz : W2.heap[gb]? = some (.cells #[.int .i64 0, .int .i64 0, .int .i64 0, .int .i64 0, .int .i64 0] 23 (0, 0)) := by rw [hW2, hgb]; exact (MapKept.heap_alloc w1 _).1
     have hge : wr.heap.size ≤ gb := by rw [hgb]; exact hb1'.size
     rw [← hgb]
     clear hW2 hgb
     refine hKA.out _ _ (KS.out _ k1) (fun hHeld => ?_)
     clear hKA KA
     try simp only [Act.put, sa, s0', s1']
     refine wpAnyH_ready (rs := [10]) (by kernel_rfl) (by simp) ?_
     refine AllReadyH.cons (i := 10) rfl (fun KA hKA => ?_) AllReadyH.nil
     rw [if_pos (by rfl)]
     refine wp_store_row 23 _ _ rfl gb #[.int .i64 o1, .int .i64 o2, .int .i64 o3, .int .i64 o4, .int .i64 o5] rfl rfl 23 _ kz infoN rfl (by simp [Value.oneCell']) ?_
     have hr1 := setRow_heap W2 gb _ #[.int .i64 o1, .int .i64 o2, .int .i64 o3, .int .i64 o4, .int .i64 o5] _ _ kz
     have hg5 := grownBy_setRow W2 gb #[.int .i64 o1, .int .i64 o2, .int .i64 o3, .int .i64 o4, .int .i64 o5]
     have hbw : Below wr.heap.size wr (W2.setRow gb #[.int .i64 o1, .int .i64 o2, .int .i64 o3, .int .i64 o4, .int .i64 o5]) := k1.grown hg5 k1.size (by rintro k' ⟨⟩; exact hge)
     refine hKA.out _ _ (KS.out _ hbw) (fun hHeld => ?_)
     clear hKA KA
     try simp only [Act.put, sa, s0', s1']
     refine rq (v := ?_) 11 11 rfl rfl (Or.inl ⟨by rfl, ?_⟩) hHeld ?_
     rotate_left
     ·(intro w hSw; clear hSw; go_simp; try with_reducible rfl)
     simp only [Act.put, sa, s0', s1']
     refine wpAnyH_done (by kernel_rfl) ?_ _
     have HR1 := Lib.hid hr1
     have HBW := Lib.hid hbw
     clear hr1 hbw hg5 kz k1
     go_wp2
     go_meet
     case rel => exact ⟨gb, rfl, rfl, Nat.le_trans HS.out.hi hge, HR1, Lib.hid (HS.out.below HBW.out), HBW⟩
    ·go_simp
     refine absK (F := fun W => W = wr.drew.alloc (.cells #[.int .i64 0, .int .i64 0, .int .i64 0, .int .i64 0, .int .i64 0] 23)) rfl ?_
     rintro W1 hW1
     have k1 : Below wr.heap.size wr W1 := by rw [hW1]; exact HBd.out.alloc HBd.out.size _
     obtain ⟨gb, hgb⟩ : ∃ gb, gb = wr.heap.size := ⟨_, rfl⟩
     have kz1 : W1.heap[gb]? = some (.cells #[.int .i64 0, .int .i64 0, .int .i64 0, .int .i64 0, .int .i64 0] 23 (0, 0)) := by rw [hW1, hgb]; exact (MapKept.heap_alloc wr.drew _).1
     have hge : wr.heap.size ≤ gb := by rw [hgb]; exact Nat.le_refl _
     have hgl : gb < W1.heap.size := by rw [hW1, hgb]; simp
     rw [← hgb]
     clear hW1 hgb
     refine hKB.out _ _ (KS.out _ k1) (fun hHeld => ?_)
     clear hKB KB
     try simp only [Act.put, sa, s0', s1']
     refine wpAnyH_ready (rs := [5]) (by kernel_rfl) (by simp) ?_
     refine AllReadyH.cons (i := 5) rfl (fun KA hKA => ?_) AllReadyH.nil
     go_simp
     refine (AT.out a W1 HAL.out (HS.out.below k1).bel).mono ?_
     rintro e W2 ⟨rfl, hb1⟩
     rw [HX5.out, HEV.out]
     have kz := (hb1.block gb hgl).trans kz1
     have k1' := k1.trans (hb1.mono k1.size)
     clear k1 kz1
     have k1 := k1'
     clear k1'
     go_wp2_with fail
     refine hKA.out _ _ (KS.out _ k1) (fun hHeld => ?_)
     clear hKA KA
     try simp only [Act.put, sa, s0', s1']
     refine rq (v := ?_) 6 27 rfl rfl (Or.inl ⟨by rfl, ?_⟩) hHeld ?_
     rotate_left
     ·(intro w hSw; clear hSw; go_simp; try with_reducible rfl)
     simp only [Act.put, sa, s0', s1']
     refine rq (v := ?_) 7 34 rfl rfl (Or.inl ⟨by rfl, ?_⟩) hHeld ?_
     rotate_left
     ·(intro w hSw; clear hSw; go_simp; try with_reducible rfl)
     simp only [Act.put, sa, s0', s1']
     refine rq (v := ?_) 8 35 rfl rfl (Or.inl ⟨by rfl, ?_⟩) hHeld ?_
     rotate_left
     ·(intro w hSw; clear hSw; go_simp; try with_reducible rfl)
     simp only [Act.put, sa, s0', s1']
     refine wpAnyH_ready (rs := [10]) (by kernel_rfl) (by simp) ?_
     refine AllReadyH.cons (i := 10) rfl (fun KA hKA => ?_) AllReadyH.nil
     rw [if_pos (by rfl)]
     refine wp_store_row 23 _ _ rfl gb #[.int .i64 o1, .int .i64 o2, .int .i64 o3, .int .i64 o4, .int .i64 o5] rfl rfl 23 _ kz infoN rfl (by simp [Value.oneCell']) ?_
     have hr1 := setRow_heap W2 gb _ #[.int .i64 o1, .int .i64 o2, .int .i64 o3, .int .i64 o4, .int .i64 o5] _ _ kz
     have hg5 := grownBy_setRow W2 gb #[.int .i64 o1, .int .i64 o2, .int .i64 o3, .int .i64 o4, .int .i64 o5]
     have hbw : Below wr.heap.size wr (W2.setRow gb #[.int .i64 o1, .int .i64 o2, .int .i64 o3, .int .i64 o4, .int .i64 o5]) := k1.grown hg5 k1.size (by rintro k' ⟨⟩; exact hge)
     refine hKA.out _ _ (KS.out _ hbw) (fun hHeld => ?_)
     clear hKA KA
     try simp only [Act.put, sa, s0', s1']
     refine rq (v := ?_) 11 11 rfl rfl (Or.inl ⟨by rfl, ?_⟩) hHeld ?_
     rotate_left
     ·(intro w hSw; clear hSw; go_simp; try with_reducible rfl)
     simp only [Act.put, sa, s0', s1']
     refine wpAnyH_done (by kernel_rfl) ?_ _
     have HR1 := Lib.hid hr1
     have HBW := Lib.hid hbw
     clear hr1 hbw hg5 kz k1
     go_wp2
     go_meet
     case rel => exact ⟨gb, rfl, rfl, Nat.le_trans HS.out.hi hge, HR1, Lib.hid (HS.out.below HBW.out), HBW⟩
   case rest =>
    obtain ⟨gb, rfl, rfl, hgb, KX, HT, HB2⟩ := hcut
    have CK2 := Lib.hid ((HB2.out.cell (p := ad.add k) GL.out).trans CK.out)
    have hgb2 : gb < wc.heap.size := (Array.getElem?_eq_some_iff.1 KX.out).1
    have hgr : (ad.add k).block < wc.heap.size := Nat.lt_of_lt_of_le GL.out HB2.out.size
    have hnx : (k : Int) + 1 = ((k + 1 : Nat) : Int) := by omega
    clear hnx
    by_cases he : ev = 0
    ·have b1 : (ev == 0) = true := beq_iff_eq.mpr he
     have HE := Lib.hid he
     clear he
     obtain ⟨nv, hnv⟩ : ∃ b, nd (o1, o2, o3, o4, o5) = b := ⟨_, rfl⟩
     have HNV := Lib.hid hnv
     clear hnv
     go_wp2
     refine wp_region_held_drew (S := fun w' => w'.heap[gb]? = some (.cells #[.int .i64 o1, .int .i64 o2, .int .i64 o3, .int .i64 o4, .int .i64 o5] 23 (0, 0)) ∧ w'.cell? (ad.add k) = some (.int .u32 (a : Int))) (by kernel_rfl) ⟨KX.out, CK2.out⟩ (fun hHeld => ?_)
     refine rq (v := ?_) 0 36 rfl rfl (Or.inl ⟨by rfl, ?_⟩) hHeld ?_
     rotate_left
     ·(intro w hSw; obtain ⟨s0, s1⟩ := hSw; obtain ⟨t0, t1, t2, t3, t4⟩ := cells5 (x := (o1, o2, o3, o4, o5)) s0; try simp only at t0 t1 t2 t3 t4; go_simp; try with_reducible rfl)
     simp only [Act.put, sa, s0', s1']
     refine rq (v := ?_) 1 37 rfl rfl (Or.inl ⟨by rfl, ?_⟩) hHeld ?_
     rotate_left
     ·(intro w hSw; obtain ⟨s0, s1⟩ := hSw; obtain ⟨t0, t1, t2, t3, t4⟩ := cells5 (x := (o1, o2, o3, o4, o5)) s0; try simp only at t0 t1 t2 t3 t4; go_simp; try with_reducible rfl)
     simp only [Act.put, sa, s0', s1']
     refine rq (v := ?_) 2 38 rfl rfl (Or.inl ⟨by rfl, ?_⟩) hHeld ?_
     rotate_left
     ·(intro w hSw; obtain ⟨s0, s1⟩ := hSw; obtain ⟨t0, t1, t2, t3, t4⟩ := cells5 (x := (o1, o2, o3, o4, o5)) s0; try simp only at t0 t1 t2 t3 t4; go_simp; try with_reducible rfl)
     simp only [Act.put, sa, s0', s1']
     refine rq (v := ?_) 3 39 rfl rfl (Or.inl ⟨by rfl, ?_⟩) hHeld ?_
     rotate_left
     ·(intro w hSw; obtain ⟨s0, s1⟩ := hSw; obtain ⟨t0, t1, t2, t3, t4⟩ := cells5 (x := (o1, o2, o3, o4, o5)) s0; try simp only at t0 t1 t2 t3 t4; go_simp; try with_reducible rfl)
     simp only [Act.put, sa, s0', s1']
     refine wpAnyH_ready (rs := [4]) (by kernel_rfl) (by simp) ?_
     refine AllReadyH.cons (i := 4) rfl (fun K hK => ?_) AllReadyH.nil
     go_simp
     refine (EN.out o1 o2 o3 o4 o5 wc.drew).mono ?_
     rintro e w2 ⟨rfl, hb2⟩
     rw [HNV.out]
     have hb2' : Below wc.heap.size wc w2 := (Below.refl wc.heap.size wc).drew.trans hb2
     have HT2 := Lib.hid (HT.out.below hb2')
     have KX2 := Lib.hid ((hb2'.block gb hgb2).trans KX.out)
     have CK3 := Lib.hid ((hb2'.cell (p := ad.add k) hgr).trans CK2.out)
     have hgb3 : gb < w2.heap.size := Nat.lt_of_lt_of_le hgb2 hb2'.size
     have hgr3 : (ad.add k).block < w2.heap.size := Nat.lt_of_lt_of_le hgr hb2'.size
     go_wp2_with fail
     refine hK.out _ _ ⟨KX2.out, CK3.out⟩ (fun hHeld => ?_)
     clear hK K
     try simp only [Act.put, sa, s0', s1']
     clear hb2 hb2' HT KX CK2 hgb2 hgr
     cases nv with
     | false =>
      refine rq (v := ?_) 5 41 rfl rfl (Or.inl ⟨by rfl, ?_⟩) hHeld ?_
      rotate_left
      ·(intro w hSw; clear hSw; go_simp; try with_reducible rfl)
      simp only [Act.put, sa, s0', s1']
      refine rq (v := ?_) 6 42 rfl rfl (Or.inl ⟨by rfl, ?_⟩) hHeld ?_
      rotate_left
      ·(intro w hSw; clear hSw; go_simp; try with_reducible rfl)
      simp only [Act.put, sa, s0', s1']
      refine rq 7 43 (v := undef) rfl rfl (Or.inr ⟨by rfl, rfl⟩) hHeld ?_
      simp only [Act.put, sa, s0', s1']
      refine rq 8 44 (v := undef) rfl rfl (Or.inr ⟨by rfl, rfl⟩) hHeld ?_
      simp only [Act.put, sa, s0', s1']
      refine rq 9 45 (v := undef) rfl rfl (Or.inr ⟨by rfl, rfl⟩) hHeld ?_
      simp only [Act.put, sa, s0', s1']
      refine rq 10 46 (v := undef) rfl rfl (Or.inr ⟨by rfl, rfl⟩) hHeld ?_
      simp only [Act.put, sa, s0', s1']
      refine rq 11 47 (v := undef) rfl rfl (Or.inr ⟨by rfl, rfl⟩) hHeld ?_
      simp only [Act.put, sa, s0', s1']
      refine rq 12 48 (v := undef) rfl rfl (Or.inr ⟨by rfl, rfl⟩) hHeld ?_
      simp only [Act.put, sa, s0', s1']
      refine rq 13 49 (v := undef) rfl rfl (Or.inr ⟨by rfl, rfl⟩) hHeld ?_
      simp only [Act.put, sa, s0', s1']
      refine rq 14 50 (v := undef) rfl rfl (Or.inr ⟨by rfl, rfl⟩) hHeld ?_
      simp only [Act.put, sa, s0', s1']
      refine rq (v := ?_) 15 51 rfl rfl (Or.inl ⟨by rfl, ?_⟩) hHeld ?_
      rotate_left
      ·(intro w hSw; clear hSw; go_simp; try with_reducible rfl)
      simp only [Act.put, sa, s0', s1']
      refine wpAnyH_done (by kernel_rfl) ?_ _
      go_wp2
      go_roundg (gk - 1)
      case measure => omega
      case rel => exact ⟨k + 1, by omega, by omega, by go_num, Lib.hid (STEP.out.2 (fun h => by have := h.2.1; rw [HNV.out] at this; cases this)), HT2⟩
     | true =>
      refine rq (v := ?_) 5 41 rfl rfl (Or.inl ⟨by rfl, ?_⟩) hHeld ?_
      rotate_left
      ·(intro w hSw; obtain ⟨s0, s1⟩ := hSw; obtain ⟨t0, t1, t2, t3, t4⟩ := cells5 (x := (o1, o2, o3, o4, o5)) s0; try simp only at t0 t1 t2 t3 t4; go_simp; try with_reducible rfl)
      simp only [Act.put, sa, s0', s1']
      refine rq (v := ?_) 6 42 rfl rfl (Or.inl ⟨by rfl, ?_⟩) hHeld ?_
      rotate_left
      ·(intro w hSw; obtain ⟨s0, s1⟩ := hSw; obtain ⟨t0, t1, t2, t3, t4⟩ := cells5 (x := (o1, o2, o3, o4, o5)) s0; try simp only at t0 t1 t2 t3 t4; go_simp; try with_reducible rfl)
      simp only [Act.put, sa, s0', s1']
      refine rq (v := ?_) 7 43 rfl rfl (Or.inl ⟨by rfl, ?_⟩) hHeld ?_
      rotate_left
      ·(intro w hSw; obtain ⟨s0, s1⟩ := hSw; obtain ⟨t0, t1, t2, t3, t4⟩ := cells5 (x := (o1, o2, o3, o4, o5)) s0; try simp only at t0 t1 t2 t3 t4; go_simp; try with_reducible rfl)
      simp only [Act.put, sa, s0', s1']
      refine rq (v := ?_) 8 44 rfl rfl (Or.inl ⟨by rfl, ?_⟩) hHeld ?_
      rotate_left
      ·(intro w hSw; obtain ⟨s0, s1⟩ := hSw; obtain ⟨t0, t1, t2, t3, t4⟩ := cells5 (x := (o1, o2, o3, o4, o5)) s0; try simp only at t0 t1 t2 t3 t4; go_simp; try with_reducible rfl)
      simp only [Act.put, sa, s0', s1']
      refine rq (v := ?_) 9 45 rfl rfl (Or.inl ⟨by rfl, ?_⟩) hHeld ?_
      rotate_left
      ·(intro w hSw; obtain ⟨s0, s1⟩ := hSw; obtain ⟨t0, t1, t2, t3, t4⟩ := cells5 (x := (o1, o2, o3, o4, o5)) s0; try simp only at t0 t1 t2 t3 t4; go_simp; try with_reducible rfl)
      simp only [Act.put, sa, s0', s1']
      refine rq (v := ?_) 10 46 rfl rfl (Or.inl ⟨by rfl, ?_⟩) hHeld ?_
      rotate_left
      ·(intro w hSw; obtain ⟨s0, s1⟩ := hSw; obtain ⟨t0, t1, t2, t3, t4⟩ := cells5 (x := (o1, o2, o3, o4, o5)) s0; try simp only at t0 t1 t2 t3 t4; go_simp; try with_reducible rfl)
      simp only [Act.put, sa, s0', s1']
      refine rq (v := ?_) 11 47 rfl rfl (Or.inl ⟨by rfl, ?_⟩) hHeld ?_
      rotate_left
      ·(intro w hSw; obtain ⟨s0, s1⟩ := hSw; obtain ⟨t0, t1, t2, t3, t4⟩ := cells5 (x := (o1, o2, o3, o4, o5)) s0; try simp only at t0 t1 t2 t3 t4; go_simp; try with_reducible rfl)
      simp only [Act.put, sa, s0', s1']
      refine rq (v := ?_) 13 49 rfl rfl (Or.inl ⟨by rfl, ?_⟩) hHeld ?_
      rotate_left
      ·(intro w hSw; clear hSw; go_simp; try with_reducible rfl)
      simp only [Act.put, sa, s0', s1']
      refine wpAnyH_ready (rs := [12]) (by kernel_rfl) (by simp) ?_
      refine AllReadyH.cons (i := 12) rfl (fun K hK => ?_) AllReadyH.nil
      go_simp
      refine (AF.out o1 o2 o3 o4 o5 a w2 HAL.out).mono ?_
      rintro e w3 ⟨y, rfl, hoy, hb3⟩
      obtain ⟨m, hm⟩ : ∃ m, aft (o1, o2, o3, o4, o5) a = m := ⟨_, rfl⟩
      have hm2 := AH.out (o1, o2, o3, o4, o5) a
      rw [hm] at hoy hm2 STEP
      obtain ⟨oy, cy, rfl, -, hry⟩ := hoy.opt
      have HRY := Lib.hid hry
      obtain ⟨Km, hKm⟩ : ∃ q, m.length = q := ⟨_, rfl⟩
      rw [hKm] at hm2
      simp only [hKm]
      have HKm := Lib.hid hKm
      have HT3 := Lib.hid (HT2.out.below hb3)
      have KX4 := Lib.hid ((hb3.block gb hgb3).trans KX2.out)
      have CK4 := Lib.hid ((hb3.cell (p := ad.add k) hgr3).trans CK3.out)
      clear hm hKm hoy hry hb3 KX2 CK3 hgb3 hgr3 HT2
      go_wp2_with fail
      refine hK.out _ _ ⟨KX4.out, CK4.out⟩ (fun hHeld => ?_)
      clear hK K
      try simp only [Act.put, sa, s0', s1']
      refine wpAnyH_ready (rs := [14]) (by kernel_rfl) (by simp) ?_
      refine AllReadyH.cons (i := 14) rfl (fun K hK => ?_) AllReadyH.nil
      go_simp
      refine (has_calls oy cy Km m x w3 HRY.out HKm.out (by omega)).mono ?_
      rintro e w4 ⟨rfl, rfl⟩
      go_wp2_with fail
      refine hK.out _ _ ⟨KX4.out, CK4.out⟩ (fun hHeld => ?_)
      clear hK K
      try simp only [Act.put, sa, s0', s1']
      refine rq (v := ?_) 15 51 rfl rfl (Or.inl ⟨by rfl, ?_⟩) hHeld ?_
      rotate_left
      ·(intro w hSw; clear hSw; go_simp; try with_reducible rfl)
      simp only [Act.put, sa, s0', s1']
      refine wpAnyH_done (by kernel_rfl) ?_ _
      by_cases hxm : x ∈ m
      ·rw [show decide (x ∈ m) = true from decide_eq_true hxm]
       have HXM := Lib.hid hxm
       clear hxm
       go_wp2
       go_ret
       exact ⟨true, rfl, ⟨fun _ => STEP.out.1 ⟨HE.out, HNV.out, HXM.out⟩, fun _ => rfl⟩, HT3.out.bel⟩
      ·rw [show decide (x ∈ m) = false from decide_eq_false hxm]
       have HXM := Lib.hid hxm
       clear hxm
       go_wp2
       go_roundg (gk - 1)
       case measure => omega
       case rel => exact ⟨k + 1, by omega, by omega, by go_num, Lib.hid (STEP.out.2 (fun h => HXM.out h.2.2)), HT3⟩
    ·have b1 : (ev == 0) = false := beq_eq_false_iff_ne.mpr he
     have HE := Lib.hid he
     clear he
     go_wp2
     refine wp_region_held_drew (S := fun w' => w'.heap[gb]? = some (.cells #[.int .i64 o1, .int .i64 o2, .int .i64 o3, .int .i64 o4, .int .i64 o5] 23 (0, 0))) (by kernel_rfl) KX.out (fun hHeld => ?_)
     refine rq (v := ?_) 0 36 rfl rfl (Or.inl ⟨by rfl, ?_⟩) hHeld ?_
     rotate_left
     ·(intro w hSw; clear hSw; go_simp; try with_reducible rfl)
     simp only [Act.put, sa, s0', s1']
     refine rq (v := ?_) 1 37 rfl rfl (Or.inl ⟨by rfl, ?_⟩) hHeld ?_
     rotate_left
     ·(intro w hSw; clear hSw; go_simp; try with_reducible rfl)
     simp only [Act.put, sa, s0', s1']
     refine rq (v := ?_) 2 38 rfl rfl (Or.inl ⟨by rfl, ?_⟩) hHeld ?_
     rotate_left
     ·(intro w hSw; clear hSw; go_simp; try with_reducible rfl)
     simp only [Act.put, sa, s0', s1']
     refine rq 3 39 (v := undef) rfl rfl (Or.inr ⟨by rfl, rfl⟩) hHeld ?_
     simp only [Act.put, sa, s0', s1']
     refine rq 4 40 (v := undef) rfl rfl (Or.inr ⟨by rfl, rfl⟩) hHeld ?_
     simp only [Act.put, sa, s0', s1']
     refine rq (v := ?_) 5 41 rfl rfl (Or.inl ⟨by rfl, ?_⟩) hHeld ?_
     rotate_left
     ·(intro w hSw; clear hSw; go_simp; try with_reducible rfl)
     simp only [Act.put, sa, s0', s1']
     refine rq (v := ?_) 6 42 rfl rfl (Or.inl ⟨by rfl, ?_⟩) hHeld ?_
     rotate_left
     ·(intro w hSw; clear hSw; go_simp; try with_reducible rfl)
     simp only [Act.put, sa, s0', s1']
     refine rq 7 43 (v := undef) rfl rfl (Or.inr ⟨by rfl, rfl⟩) hHeld ?_
     simp only [Act.put, sa, s0', s1']
     refine rq 8 44 (v := undef) rfl rfl (Or.inr ⟨by rfl, rfl⟩) hHeld ?_
     simp only [Act.put, sa, s0', s1']
     refine rq 9 45 (v := undef) rfl rfl (Or.inr ⟨by rfl, rfl⟩) hHeld ?_
     simp only [Act.put, sa, s0', s1']
     refine rq 10 46 (v := undef) rfl rfl (Or.inr ⟨by rfl, rfl⟩) hHeld ?_
     simp only [Act.put, sa, s0', s1']
     refine rq 11 47 (v := undef) rfl rfl (Or.inr ⟨by rfl, rfl⟩) hHeld ?_
     simp only [Act.put, sa, s0', s1']
     refine rq 12 48 (v := undef) rfl rfl (Or.inr ⟨by rfl, rfl⟩) hHeld ?_
     simp only [Act.put, sa, s0', s1']
     refine rq 13 49 (v := undef) rfl rfl (Or.inr ⟨by rfl, rfl⟩) hHeld ?_
     simp only [Act.put, sa, s0', s1']
     refine rq 14 50 (v := undef) rfl rfl (Or.inr ⟨by rfl, rfl⟩) hHeld ?_
     simp only [Act.put, sa, s0', s1']
     refine rq (v := ?_) 15 51 rfl rfl (Or.inl ⟨by rfl, ?_⟩) hHeld ?_
     rotate_left
     ·(intro w hSw; clear hSw; go_simp; try with_reducible rfl)
     simp only [Act.put, sa, s0', s1']
     refine wpAnyH_done (by kernel_rfl) ?_ _
     go_wp2
     go_roundg (gk - 1)
     case measure => omega
     case rel => exact ⟨k + 1, by omega, by omega, by go_num, Lib.hid (STEP.out.2 (fun h => HE.out h.1)), Lib.hid (HT.out.below (Below.refl wc.heap.size wc).drew)⟩
  ·obtain rfl : N = k := by omega
   have hnlt : ¬ ((N : Int) < (N : Int)) := by omega
   go_wp2
   go_ret
   refine ⟨false, rfl, not_true (fun h => ?_) rfl, HS.out.bel⟩
   rcases h with h | h | ⟨b, hb, h⟩
   ·exact HXE.out h
   ·exact HXL.out h
   ·refine HNo.out b ?_ h
    rw [List.take_of_length_le (by rw [HN.out]; exact Nat.le_refl _)]
    exact hb
theorem bump_le (l : List (Nat × Nat)) (m : Nat) (h : ∀ x ∈ l, x.2 ≤ m) : (∀ x ∈ bump l, x.2 ≤ m + 1) ∧ (bump l).length ≤ max l.length 1 := by
 unfold bump
 refine ⟨fun x hx => ?_, ?_⟩
 ·rcases List.mem_append.1 hx with hx | hx
  ·have := h x (List.dropLast_subset l hx)
   omega
  ·rw [List.mem_singleton] at hx
   subst hx
   by_cases hl : l = []
   ·subst hl; simp
   ·obtain ⟨q, y, rfl⟩ := list_last l hl
    have := h y (by simp)
    rw [List.getLastD_concat]
    simpa using this
 ·simp
  omega
theorem boutD_facts (I : Nat → Ins × Int) (nd : Ins → Bool) (B : Nat) (R lead : List Nat) : ∀ n, (boutD I nd B R lead n).length ≤ n ∧ ∀ x ∈ boutD I nd B R lead n, x.2 ≤ n
 | 0 => ⟨Nat.le_refl _, fun x hx => by cases hx⟩
 | n + 1 => by
  obtain ⟨h1, h2⟩ := boutD_facts I nd B R lead n
  show (bstepD I nd B R lead (boutD I nd B R lead n) n).length ≤ _ ∧ ∀ x ∈ bstepD I nd B R lead (boutD I nd B R lead n) n, x.2 ≤ n + 1
  unfold bstepD
  split
  ·split
   ·obtain ⟨b1, b2⟩ := bump_le (boutD I nd B R lead n ++ [(B + 4 * n, 0)]) n (fun x hx => by
     rcases List.mem_append.1 hx with hx | hx
     ·exact h2 x hx
     ·rw [List.mem_singleton] at hx; subst hx; exact Nat.zero_le _)
    rw [List.length_append, List.length_singleton] at b2
    exact ⟨by omega, b1⟩
   ·obtain ⟨b1, b2⟩ := bump_le (boutD I nd B R lead n) n h2
    exact ⟨by omega, b1⟩
  ·exact ⟨by omega, fun x hx => Nat.le_succ_of_le (h2 x hx)⟩
theorem boutD_ne (I : Nat → Ins × Int) (nd : Ins → Bool) (B : Nat) (R lead : List Nat) : ∀ n, (∃ i, i < n ∧ B + 4 * i ∈ R) → boutD I nd B R lead n ≠ []
 | 0, h => by obtain ⟨i, hi, _⟩ := h; omega
 | n + 1, h => by
  show bstepD I nd B R lead (boutD I nd B R lead n) n ≠ []
  unfold bstepD
  split
  ·unfold bump; simp
  ·rename_i hn
   obtain ⟨i, hi, hm⟩ := h
   by_cases e : i = n
   ·subst e; exact absurd hm hn
   ·exact boutD_ne I nd B R lead n ⟨i, by omega, hm⟩
theorem LeadP_iff {I : Nat → Ins × Int} {aft : Ins → Nat → List Nat} {nd : Ins → Bool} {E : Nat} {es R : List Nat} {s : RS} (hd : FDone I aft nd (es ++ [E]) s) (hR : ∀ a, a ∈ R ↔ Rch I aft (es ++ [E]) a) (a : Nat) : LeadP I aft nd E es R a ↔ a ∈ s.lead := by
 rw [hd.go.ld]
 unfold LeadP
 rw [List.mem_append, List.mem_singleton]
 constructor
 ·rintro (h | h | ⟨b, hb, h0, h1, h2⟩)
  ·exact .inl (.inr h)
  ·exact .inl (.inl h)
  ·exact .inr ⟨b, (hd.go.seen_iff hd.fin b).2 ⟨(hR b).1 hb, h0⟩, h1, h2⟩
 ·rintro ((h | h) | ⟨b, hb, h1, h2⟩)
  ·exact .inr (.inl h)
  ·exact .inl h
  ·obtain ⟨g1, g2⟩ := (hd.go.seen_iff hd.fin b).1 hb
   exact .inr (.inr ⟨b, (hR b).2 g1, g2, h1, h2⟩)
def Tells (q : Bool) (p : Prop) : Prop := q = true ↔ p
structure OB (w : World) (n1 : Nat) (v : Value) (l : List (Nat × Nat)) : Prop where
 own : OwnB w n1 v l
 le : n1 ≤ w.heap.size
theorem OB.below {w w' : World} {n1 : Nat} {v : Value} {l : List (Nat × Nat)} (h : OB w n1 v l) (hb : Below w.heap.size w w') : OB w' n1 v l := ⟨OwnB.kept' h.own (grownB' hb none) (by rintro q ⟨⟩), Nat.le_trans h.le hb.size⟩
theorem RdSt.far {n0 n1 : Nat} {w wx wy : World} {B E : Int} {A : Option Addr} {n cap : Nat} {S : Int} {v : Value} {l : List Nat} {row : Option Nat} (h : RdSt n0 w wx B E A n cap S v l) (hg : wx.grownBy wy row) (hr : ∀ q, row = some q → n1 ≤ q) (hv : ∀ q, v.ownBlock = some q → q < n1) (hn : n0 ≤ n1) : RdSt n0 w wy B E A n cap S v l :=
 ⟨(hg.block w.heap.size (by have := h.lo; have := h.hi; omega) (fun e => by have := hr _ e.symm; have := h.lo; omega)).trans h.box, OwnU.kept' h.own hg (fun q hq => .inr (fun e => by have := hr q hq; have := hv q e; omega)), h.bel.grown hg h.bel.size (fun k hk => by have := hr k hk; have := h.lo; omega), h.lo, Nat.le_trans h.hi hg.size⟩
theorem OwnB.row {w : World} {base g n cap : Nat} {L : List (Nat × Nat)} {x c : Nat} (h : OwnB w base (.slice (some ⟨g, 0, none⟩) n cap) (L ++ [(x, c)])) :
  n = L.length + 1 ∧ w.ownsRow base 40 2 (.slice (some ⟨g, 0, none⟩) (L.length + 1) cap) (L.length + 1) (bv (L ++ [(x, c)])) := by
 have hl : (L ++ [(x, c)]).length = L.length + 1 := by simp
 have hn : n = L.length + 1 := by
  rcases h.2 with ⟨h1, _⟩ | ⟨g', cap', cur, e, _⟩
  ·cases h1
  ·injection e with _ e2 _
   rw [e2, hl]
 have h2 := h
 unfold OwnB at h2
 rw [hl, hn] at h2
 exact ⟨hn, h2⟩
theorem OwnB.storeAll {w : World} {base g n cap : Nat} {L : List (Nat × Nat)} {x c : Nat} (h : OwnB w base (.slice (some ⟨g, 0, none⟩) n cap) (L ++ [(x, c)])) :
  w.cell? ⟨g, L.length * 2, none⟩ = some (.int .u32 (x : Int)) ∧ w.cell? ⟨g, L.length * 2 + 1, none⟩ = some (.int .i64 (c : Int)) ∧ w.frozen? ⟨g, L.length * 2, none⟩ = false ∧ w.frozen? ⟨g, L.length * 2 + 1, none⟩ = false := by
 obtain ⟨h1, h2, _, _⟩ := OwnB.inc h
 have hr := h.row.2
 obtain ⟨e1, e2⟩ := bv_get (L ++ [(x, c)]) L.length (x, c) (by simp)
 exact ⟨(World.ownsRow.cellAt hr (L.length * 2) (by omega)).trans e1, h1, World.ownsRow.frozenAt hr (L.length * 2), h2⟩
theorem OwnB.set2 {w : World} {base g n cap : Nat} {L : List (Nat × Nat)} {x c : Nat} (h : OwnB w base (.slice (some ⟨g, 0, none⟩) n cap) (L ++ [(x, c)])) :
  OwnB ((w.setCell ⟨g, L.length * 2, none⟩ (.int .u32 (x : Int))).setCell ⟨g, L.length * 2 + 1, none⟩ (.int .i64 ((c : Int) + 1))) base (.slice (some ⟨g, 0, none⟩) (L.length + 1) cap) (bump (L ++ [(x, c)])) ∧
   w.grownBy ((w.setCell ⟨g, L.length * 2, none⟩ (.int .u32 (x : Int))).setCell ⟨g, L.length * 2 + 1, none⟩ (.int .i64 ((c : Int) + 1))) (some g) := by
 obtain ⟨s1, s2⟩ := World.ownsRow.stored h.row.2 (L.length * 2) (.int .u32 (x : Int))
 have e1 := (bv_get (L ++ [(x, c)]) L.length (x, c) (by simp)).1
 have e : (bv (L ++ [(x, c)])).set (L.length * 2) (.int .u32 (x : Int)) = bv (L ++ [(x, c)]) := by
  obtain ⟨hl, he⟩ := List.getElem?_eq_some_iff.1 e1
  rw [← he]
  exact List.set_getElem_self hl
 rw [e] at s1
 have s3 : OwnB (w.setCell ⟨g, L.length * 2, none⟩ (.int .u32 (x : Int))) base (.slice (some ⟨g, 0, none⟩) (L.length + 1) cap) (L ++ [(x, c)]) := by
  unfold OwnB
  rw [show (L ++ [(x, c)]).length = L.length + 1 by simp]
  exact s1
 obtain ⟨_, _, h3, h4⟩ := OwnB.inc s3
 exact ⟨h3, s2.trans h4⟩
set_option maxHeartbeats 16000000 in
theorem rFind_calls (B E : Nat) (A : Option Addr) (len cap : Nat) (S : Int) (I : Nat → Ins × Int) (aft : Ins → Nat → List Nat) (nd : Ins → Bool) (es : List Nat) (s : RS) (w : World) (A1 : Option Addr) (M c1 : Nat)
  (afterC : rAfterC aft) (endsC : rEndsC nd) (atC : rAtC w.heap.size w B E A len cap S I) (ha2 : ∀ x a, (aft x a).length ≤ 2 ∧ ∀ b ∈ aft x a, b < 4294967296) (hr : RdU w A1 es) (hM : es.length = M) (hMb : M < 1000) (hE : E < 4294967296) (hes : ∀ a ∈ es, a < 4294967296)
  (hB : B < 4294963201) (hlen : len ≤ 1000) (hcap : len ≤ cap) (hV : ∀ a, (I a).2 = 0 → ∃ i, i < len ∧ a = B + 4 * i) (hd : FDone I aft nd (es ++ [E]) s) (R : List (Nat × Nat) × Int) (hR : fend I nd s = R) :
  Calls Try.prog 18 #[imv B E A len cap S, .slice A1 M c1] w fun e w' => ∃ v, e = .returned (.tuple #[v, .int .i64 R.2]) ∧ OwnB w' w.heap.size v R.1 ∧ Below w.heap.size w w' := by
 have AF := Lib.hid afterC
 have EN := Lib.hid endsC
 have AT := Lib.hid atC
 have A2 := Lib.hid ha2
 have HR := Lib.hid hr
 have HM := Lib.hid hM
 have HES := Lib.hid hes
 have HV := Lib.hid hV
 have HD := Lib.hid hd
 have HRq := Lib.hid hR
 obtain ⟨V, hVe⟩ : ∃ V, V = (List.range len).map (fun i => B + 4 * i) := ⟨_, rfl⟩
 have hVl : V.length = len := by rw [hVe]; simp
 have HV2 : Hid (∀ a, (I a).2 = 0 → a ∈ V) := Lib.hid (fun a ha => by
  obtain ⟨i, hi, rfl⟩ := hV a ha
  rw [hVe]
  exact List.mem_map.2 ⟨i, List.mem_range.2 hi, rfl⟩)
 have HVl := Lib.hid hVl
 clear afterC endsC atC ha2 hr hM hes hV hd hR hVe hVl
 go_enter Try.func18, Try.ntmps18
 obtain ⟨W0, hW0⟩ : ∃ W0, W0 = w.alloc (.cells #[.int .u32 (B : Int), .int .u32 (E : Int), .slice A len cap, .int .i64 S] 32) := ⟨_, rfl⟩
 have HS0 : Hid (RdSt (w.heap.size + 1) w W0 B E A len cap S (.slice none 0 0) []) := Lib.hid (by
  rw [hW0]
  exact ⟨(MapKept.heap_alloc w _).1, World.ownsRow_nil _ _ _ _, (Below.refl _ w).alloc (Nat.le_refl _) _, Nat.lt_succ_self _, by simp⟩)
 have hsz0 : W0.heap.size = w.heap.size + 1 := by rw [hW0]; simp
 have HSZ0 := Lib.hid hsz0
 clear hsz0
 obtain ⟨f0, f1, f2, f3⟩ := cells4 HS0.out.box
 go_wp2_with (go_at_call 32; refine hold_ ?_)
 intro _
 try rw [← hW0]
 refine (Reached_calls B E A len cap S I aft es V W0 A1 M c1 AF.out (fun a w' ha hb => AT.out a w' ha (HS0.out.bel.trans (hb.mono (by rw [HSZ0.out]; omega)))) A2.out (HR.out.below HS0.out.bel) HM.out hE HES.out HV2.out (by rw [HVl.out]; omega)).mono ?_
 rintro e w1 ⟨v, rfl, Rl, ho1, hinv, hRlen, hRlt, hb1⟩
 have HS1 : Hid (RdSt (w.heap.size + 1) w w1 B E A len cap S v Rl) := Lib.hid (by
  have h := HS0.out.below hb1
  refine ⟨h.box, ?_, h.bel, h.lo, h.hi⟩
  rw [HSZ0.out] at ho1
  exact ho1)
 have HALL := Lib.hid hinv.all
 have hEm : E ∈ Rl := (hinv.all E).2 (Rch.base (by simp))
 have HRlt := Lib.hid hRlt
 obtain ⟨g, c, rfl, hlc, hgl⟩ := HS1.out.pos (List.length_pos_of_mem hEm)
 obtain ⟨N, hN⟩ : ∃ N, Rl.length = N := ⟨_, rfl⟩
 rw [hN] at hRlen hlc HS1
 simp only [hN]
 have HN := Lib.hid hN
 clear hinv hEm hRlt hgl hN ho1 hb1 hW0 HS0 f0 f1 f2 f3
 obtain ⟨n0, hn0⟩ : ∃ n0, n0 = w.heap.size + 1 := ⟨_, rfl⟩
 rw [← hn0] at HS1
 clear hn0 HSZ0
 go_simp
 try rw [Oper.upon_value]
 go_wp2
 obtain ⟨l, hl⟩ : ∃ l, l = Rl := ⟨_, rfl⟩
 rw [← hl] at HS1 HALL HRlt HN
 clear hl
 go_loopg [7, 8, 9] N (fun q s7 s8 s9 wx => ∃ (k least : Nat) (bad : Int), N ≤ q + k ∧ k ≤ N ∧ s9 = .int .i64 k ∧ s7 = .int .i64 bad ∧ s8 = .int .u32 (least : Int) ∧ Hid (LeastBad I (l.take k) bad least) ∧ Hid (RdSt n0 w wx B E A len cap S (.slice (some ⟨g, 0, none⟩) N c) l))
 case atStart => exact ⟨0, 0, 0, Nat.le_refl _, Nat.zero_le _, rfl, rfl, rfl, Lib.hid ⟨fun _ a ha => by simp at ha, fun h => absurd rfl h, fun h => absurd rfl h⟩, HS1⟩
 case round =>
  clear HS1
  obtain ⟨k, least, bad, hgk, hkN, rfl, rfl, rfl, HLB, HS⟩ := hrel
  by_cases hlt : k < N
  ·obtain ⟨a, ha⟩ : ∃ a, l[k]? = some a := ⟨_, List.getElem?_eq_getElem (by rw [HN.out]; exact hlt)⟩
   have HAL := Lib.hid (HRlt.out a (List.mem_of_getElem? ha))
   have CK := Lib.hid (show wr.cell? ⟨g, k, none⟩ = some (.int .u32 (a : Int)) by
    rw [OwnU.cellAt HS.out.own k (by rw [HN.out]; exact hlt), List.getD_eq_getElem?_getD, ha]
    rfl)
   have GL := Lib.hid (World.ownsRow.lt HS.out.own g rfl).2
   obtain ⟨⟨o1, o2, o3, o4, o5⟩, hx5⟩ : ∃ x, (I a).1 = x := ⟨_, rfl⟩
   obtain ⟨ev, hev⟩ : ∃ e, (I a).2 = e := ⟨_, rfl⟩
   have HX5 := Lib.hid hx5
   have HEV := Lib.hid hev
   have stp := HLB.out.step (a := a)
   rw [hev, show l.take k ++ [a] = l.take (k + 1) by rw [List.take_add_one, ha]; rfl] at stp
   have STP := Lib.hid stp
   clear ha hx5 hev stp
   go_upto_region 6 with fail
   go_cut [10, 11] (fun sx se wx => ∃ gb : Nat, sx = .pointer (some ⟨gb, 0, none⟩) ∧ se = .int .i64 ev ∧ n0 ≤ gb ∧ Hid (wx.heap[gb]? = some (.cells #[.int .i64 o1, .int .i64 o2, .int .i64 o3, .int .i64 o4, .int .i64 o5] 23 (0, 0))) ∧ Hid (RdSt n0 w wx B E A len cap S (.slice (some ⟨g, 0, none⟩) N c) l) ∧ Hid (Below wr.heap.size wr wx))
   case first =>
    refine wp_region_held_drew (S := fun w' => w'.heap[w.heap.size]? = some (.cells #[.int .u32 B, .int .u32 (E : Int), .slice A len cap, .int .i64 S] 32 (0, 0)) ∧ w'.cell? (⟨g, k, none⟩) = some (.int .u32 (a : Int))) (by kernel_rfl) ⟨HS.out.box, CK.out⟩ (fun hHeld => ?_)
    refine rq (v := ?_) 0 28 rfl rfl (Or.inl ⟨by rfl, ?_⟩) hHeld ?_
    rotate_left
    ·(intro w hSw; obtain ⟨s0, s1⟩ := hSw; obtain ⟨t0, t1, t2, t3⟩ := cells4 s0; go_simp; try with_reducible rfl)
    simp only [Act.put, sa, s0', s1']
    refine rq (v := ?_) 1 29 rfl rfl (Or.inl ⟨by rfl, ?_⟩) hHeld ?_
    rotate_left
    ·(intro w hSw; obtain ⟨s0, s1⟩ := hSw; obtain ⟨t0, t1, t2, t3⟩ := cells4 s0; go_simp; try with_reducible rfl)
    simp only [Act.put, sa, s0', s1']
    refine rq (v := ?_) 2 30 rfl rfl (Or.inl ⟨by rfl, ?_⟩) hHeld ?_
    rotate_left
    ·(intro w hSw; obtain ⟨s0, s1⟩ := hSw; obtain ⟨t0, t1, t2, t3⟩ := cells4 s0; go_simp; try with_reducible rfl)
    simp only [Act.put, sa, s0', s1']
    refine rq (v := ?_) 3 31 rfl rfl (Or.inl ⟨by rfl, ?_⟩) hHeld ?_
    rotate_left
    ·(intro w hSw; obtain ⟨s0, s1⟩ := hSw; obtain ⟨t0, t1, t2, t3⟩ := cells4 s0; go_simp; try with_reducible rfl)
    simp only [Act.put, sa, s0', s1']
    refine rq (v := ?_) 4 32 rfl rfl (Or.inl ⟨by rfl, ?_⟩) hHeld ?_
    rotate_left
    ·(intro w hSw; obtain ⟨s0, s1⟩ := hSw; obtain ⟨t0, t1, t2, t3⟩ := cells4 s0; go_simp; try with_reducible rfl)
    simp only [Act.put, sa, s0', s1']
    have HD := Lib.hid (HS.out.below (Below.refl wr.heap.size wr).drew)
    have HBd := Lib.hid ((Below.refl wr.heap.size wr).drew)
    have kS : ∀ W, Below wr.heap.size wr W → W.heap[w.heap.size]? = some (.cells #[.int .u32 B, .int .u32 (E : Int), .slice A len cap, .int .i64 S] 32 (0, 0)) ∧ W.cell? (⟨g, k, none⟩) = some (.int .u32 (a : Int)) := fun W hW => ⟨(HS.out.below hW).box, (hW.cell (p := ⟨g, k, none⟩) GL.out).trans CK.out⟩
    have KS := Lib.hid kS
    clear kS
    refine wpAnyH_ready (rs := [5, 9]) (by kernel_rfl) (by simp) ?_
    refine AllReadyH.cons (i := 5) rfl (fun KA hKA => ?_) (AllReadyH.cons (i := 9) rfl (fun KB hKB => ?_) AllReadyH.nil)
    ·go_simp
     refine (AT.out a wr.drew HAL.out HD.out.bel).mono ?_
     rintro e w1 ⟨rfl, hb1⟩
     rw [HX5.out, HEV.out]
     have hb1' := HBd.out.trans hb1
     go_wp2_with fail
     refine hKA.out _ _ (KS.out _ hb1') (fun hHeld => ?_)
     clear hKA KA
     try simp only [Act.put, sa, s0', s1']
     refine rq (v := ?_) 6 27 rfl rfl (Or.inl ⟨by rfl, ?_⟩) hHeld ?_
     rotate_left
     ·(intro w hSw; clear hSw; go_simp; try with_reducible rfl)
     simp only [Act.put, sa, s0', s1']
     refine rq (v := ?_) 7 34 rfl rfl (Or.inl ⟨by rfl, ?_⟩) hHeld ?_
     rotate_left
     ·(intro w hSw; clear hSw; go_simp; try with_reducible rfl)
     simp only [Act.put, sa, s0', s1']
     refine rq (v := ?_) 8 35 rfl rfl (Or.inl ⟨by rfl, ?_⟩) hHeld ?_
     rotate_left
     ·(intro w hSw; clear hSw; go_simp; try with_reducible rfl)
     simp only [Act.put, sa, s0', s1']
     refine wpAnyH_ready (rs := [9]) (by kernel_rfl) (by simp) ?_
     refine AllReadyH.cons (i := 9) rfl (fun KA hKA => ?_) AllReadyH.nil
     go_simp
     refine absK (F := fun W => W = w1.alloc (.cells #[.int .i64 0, .int .i64 0, .int .i64 0, .int .i64 0, .int .i64 0] 23)) rfl ?_
     rintro W2 hW2
     have k1 : Below wr.heap.size wr W2 := by rw [hW2]; exact hb1'.alloc hb1'.size _
     obtain ⟨gb, hgb⟩ : ∃ gb, gb = w1.heap.size := ⟨_, rfl⟩
     have kz : W2.heap[gb]? = some (.cells #[.int .i64 0, .int .i64 0, .int .i64 0, .int .i64 0, .int .i64 0] 23 (0, 0)) := by rw [hW2, hgb]; exact (MapKept.heap_alloc w1 _).1
     have hge : wr.heap.size ≤ gb := by rw [hgb]; exact hb1'.size
     rw [← hgb]
     clear hW2 hgb
     refine hKA.out _ _ (KS.out _ k1) (fun hHeld => ?_)
     clear hKA KA
     try simp only [Act.put, sa, s0', s1']
     refine wpAnyH_ready (rs := [10]) (by kernel_rfl) (by simp) ?_
     refine AllReadyH.cons (i := 10) rfl (fun KA hKA => ?_) AllReadyH.nil
     rw [if_pos (by rfl)]
     refine wp_store_row 23 _ _ rfl gb #[.int .i64 o1, .int .i64 o2, .int .i64 o3, .int .i64 o4, .int .i64 o5] rfl rfl 23 _ kz infoN rfl (by simp [Value.oneCell']) ?_
     have hr1 := setRow_heap W2 gb _ #[.int .i64 o1, .int .i64 o2, .int .i64 o3, .int .i64 o4, .int .i64 o5] _ _ kz
     have hg5 := grownBy_setRow W2 gb #[.int .i64 o1, .int .i64 o2, .int .i64 o3, .int .i64 o4, .int .i64 o5]
     have hbw : Below wr.heap.size wr (W2.setRow gb #[.int .i64 o1, .int .i64 o2, .int .i64 o3, .int .i64 o4, .int .i64 o5]) := k1.grown hg5 k1.size (by rintro k' ⟨⟩; exact hge)
     refine hKA.out _ _ (KS.out _ hbw) (fun hHeld => ?_)
     clear hKA KA
     try simp only [Act.put, sa, s0', s1']
     refine rq (v := ?_) 11 11 rfl rfl (Or.inl ⟨by rfl, ?_⟩) hHeld ?_
     rotate_left
     ·(intro w hSw; clear hSw; go_simp; try with_reducible rfl)
     simp only [Act.put, sa, s0', s1']
     refine wpAnyH_done (by kernel_rfl) ?_ _
     have HR1 := Lib.hid hr1
     have HBW := Lib.hid hbw
     clear hr1 hbw hg5 kz k1
     go_wp2
     go_meet
     case rel => exact ⟨gb, rfl, rfl, Nat.le_trans HS.out.hi hge, HR1, Lib.hid (HS.out.below HBW.out), HBW⟩
    ·go_simp
     refine absK (F := fun W => W = wr.drew.alloc (.cells #[.int .i64 0, .int .i64 0, .int .i64 0, .int .i64 0, .int .i64 0] 23)) rfl ?_
     rintro W1 hW1
     have k1 : Below wr.heap.size wr W1 := by rw [hW1]; exact HBd.out.alloc HBd.out.size _
     obtain ⟨gb, hgb⟩ : ∃ gb, gb = wr.heap.size := ⟨_, rfl⟩
     have kz1 : W1.heap[gb]? = some (.cells #[.int .i64 0, .int .i64 0, .int .i64 0, .int .i64 0, .int .i64 0] 23 (0, 0)) := by rw [hW1, hgb]; exact (MapKept.heap_alloc wr.drew _).1
     have hge : wr.heap.size ≤ gb := by rw [hgb]; exact Nat.le_refl _
     have hgl : gb < W1.heap.size := by rw [hW1, hgb]; simp
     rw [← hgb]
     clear hW1 hgb
     refine hKB.out _ _ (KS.out _ k1) (fun hHeld => ?_)
     clear hKB KB
     try simp only [Act.put, sa, s0', s1']
     refine wpAnyH_ready (rs := [5]) (by kernel_rfl) (by simp) ?_
     refine AllReadyH.cons (i := 5) rfl (fun KA hKA => ?_) AllReadyH.nil
     go_simp
     refine (AT.out a W1 HAL.out (HS.out.below k1).bel).mono ?_
     rintro e W2 ⟨rfl, hb1⟩
     rw [HX5.out, HEV.out]
     have kz := (hb1.block gb hgl).trans kz1
     have k1' := k1.trans (hb1.mono k1.size)
     clear k1 kz1
     have k1 := k1'
     clear k1'
     go_wp2_with fail
     refine hKA.out _ _ (KS.out _ k1) (fun hHeld => ?_)
     clear hKA KA
     try simp only [Act.put, sa, s0', s1']
     refine rq (v := ?_) 6 27 rfl rfl (Or.inl ⟨by rfl, ?_⟩) hHeld ?_
     rotate_left
     ·(intro w hSw; clear hSw; go_simp; try with_reducible rfl)
     simp only [Act.put, sa, s0', s1']
     refine rq (v := ?_) 7 34 rfl rfl (Or.inl ⟨by rfl, ?_⟩) hHeld ?_
     rotate_left
     ·(intro w hSw; clear hSw; go_simp; try with_reducible rfl)
     simp only [Act.put, sa, s0', s1']
     refine rq (v := ?_) 8 35 rfl rfl (Or.inl ⟨by rfl, ?_⟩) hHeld ?_
     rotate_left
     ·(intro w hSw; clear hSw; go_simp; try with_reducible rfl)
     simp only [Act.put, sa, s0', s1']
     refine wpAnyH_ready (rs := [10]) (by kernel_rfl) (by simp) ?_
     refine AllReadyH.cons (i := 10) rfl (fun KA hKA => ?_) AllReadyH.nil
     rw [if_pos (by rfl)]
     refine wp_store_row 23 _ _ rfl gb #[.int .i64 o1, .int .i64 o2, .int .i64 o3, .int .i64 o4, .int .i64 o5] rfl rfl 23 _ kz infoN rfl (by simp [Value.oneCell']) ?_
     have hr1 := setRow_heap W2 gb _ #[.int .i64 o1, .int .i64 o2, .int .i64 o3, .int .i64 o4, .int .i64 o5] _ _ kz
     have hg5 := grownBy_setRow W2 gb #[.int .i64 o1, .int .i64 o2, .int .i64 o3, .int .i64 o4, .int .i64 o5]
     have hbw : Below wr.heap.size wr (W2.setRow gb #[.int .i64 o1, .int .i64 o2, .int .i64 o3, .int .i64 o4, .int .i64 o5]) := k1.grown hg5 k1.size (by rintro k' ⟨⟩; exact hge)
     refine hKA.out _ _ (KS.out _ hbw) (fun hHeld => ?_)
     clear hKA KA
     try simp only [Act.put, sa, s0', s1']
     refine rq (v := ?_) 11 11 rfl rfl (Or.inl ⟨by rfl, ?_⟩) hHeld ?_
     rotate_left
     ·(intro w hSw; clear hSw; go_simp; try with_reducible rfl)
     simp only [Act.put, sa, s0', s1']
     refine wpAnyH_done (by kernel_rfl) ?_ _
     have HR1 := Lib.hid hr1
     have HBW := Lib.hid hbw
     clear hr1 hbw hg5 kz k1
     go_wp2
     go_meet
     case rel => exact ⟨gb, rfl, rfl, Nat.le_trans HS.out.hi hge, HR1, Lib.hid (HS.out.below HBW.out), HBW⟩
   case rest =>
    obtain ⟨gb, rfl, rfl, hgb, KX, HT, HB2⟩ := hcut
    have ck : wc.cell? ⟨g, k, none⟩ = some (.int .u32 (a : Int)) := (HB2.out.cell (p := ⟨g, k, none⟩) GL.out).trans CK.out
    by_cases he : ev = 0
    ·have b1 : (ev != 0) = false := by simp [he]
     have HE := Lib.hid (show ¬ (ev ≠ 0 ∧ (bad = 0 ∨ a < least)) from fun h => h.1 he)
     clear he
     go_wp2
     go_roundg (gk - 1)
     case measure => omega
     case rel => exact ⟨k + 1, least, bad, by omega, by omega, by go_num, rfl, rfl, Lib.hid (by have h := STP.out; rwa [if_neg HE.out, if_neg HE.out] at h), HT⟩
    ·have b1 : (ev != 0) = true := by simp [he]
     by_cases hb0 : bad = 0
     ·have b2 : (bad == 0) = true := beq_iff_eq.mpr hb0
      have HE := Lib.hid (show ev ≠ 0 ∧ (bad = 0 ∨ a < least) from ⟨he, .inl hb0⟩)
      clear he hb0
      go_wp2
      go_roundg (gk - 1)
      case measure => omega
      case rel => exact ⟨k + 1, a, ev, by omega, by omega, by go_num, rfl, rfl, Lib.hid (by have h := STP.out; rwa [if_pos HE.out, if_pos HE.out] at h), HT⟩
     ·have b2 : (bad == 0) = false := beq_eq_false_iff_ne.mpr hb0
      by_cases hal : a < least
      ·have HE := Lib.hid (show ev ≠ 0 ∧ (bad = 0 ∨ a < least) from ⟨he, .inr hal⟩)
       clear he hb0
       have b3 : decide ((a : Int) < (least : Int)) = true := decide_eq_true (by omega)
       go_wp2
       go_roundg (gk - 1)
       case measure => omega
       case rel => exact ⟨k + 1, a, ev, by omega, by omega, by go_num, rfl, rfl, Lib.hid (by have h := STP.out; rwa [if_pos HE.out, if_pos HE.out] at h), HT⟩
      ·have HE := Lib.hid (show ¬ (ev ≠ 0 ∧ (bad = 0 ∨ a < least)) from fun h => h.2.elim hb0 hal)
       clear he hb0
       have b3 : decide ((a : Int) < (least : Int)) = false := decide_eq_false (by omega)
       go_wp2
       go_roundg (gk - 1)
       case measure => omega
       case rel => exact ⟨k + 1, least, bad, by omega, by omega, by go_num, rfl, rfl, Lib.hid (by have h := STP.out; rwa [if_neg HE.out, if_neg HE.out] at h), HT⟩
  ·have hkN' : k = N := by omega
   have hlb : LeastBad I l bad least := by
    have h := HLB.out
    rwa [hkN', List.take_of_length_le (by rw [HN.out]; exact Nat.le_refl _)] at h
   obtain ⟨e1, e2⟩ := hlb.end HD.out HALL.out
   have hnlt : ¬ ((k : Int) < (N : Int)) := by omega
   by_cases hb0 : bad = 0
   ·have b1 : (bad != 0) = false := by simp [hb0]
    have HBN := Lib.hid (e2.1 hb0)
    clear hb0 hlb e1 e2 hkN'
    go_wp2
    have HS1 := Lib.hid (HS.out.below ((Below.refl wr.heap.size wr).alloc (Nat.le_refl _) (.cells #[] 40)))
    have HO1 : Hid (OB (wr.alloc (.cells #[] 40)) wr.heap.size (.slice (some ⟨wr.heap.size, 0, none⟩) 0 0) []) := Lib.hid (OB.mk (World.ownsRow_lit (base := wr.heap.size) (e := 40) (size := 2) wr #[] 0 (Nat.le_refl _) (by simp [maxLen]) rfl) (by simp))
    have hgn := (World.ownsRow.lt HS.out.own g rfl).2
    have hn01 := HS.out.hi
    clear HS HLB hkN hgk hlt hnlt
    generalize wr.alloc (.cells #[] 40) = wz at *
    obtain ⟨n1, hn1⟩ : ∃ n1, wr.heap.size = n1 := ⟨_, rfl⟩
    simp only [hn1] at HO1 hgn hn01 ⊢
    clear hn1
    go_loopg [12, 13] len (fun q s12 s13 wx => ∃ (i : Nat), len ≤ q + i ∧ i ≤ len ∧ s13 = .int .i64 i ∧ Hid (OB wx n1 s12 (boutD I nd B l s.lead i)) ∧ Hid (RdSt n0 w wx B E A len cap S (.slice (some ⟨g, 0, none⟩) N c) l))
    case atStart => exact ⟨0, Nat.le_refl _, Nat.zero_le _, rfl, HO1, HS1⟩
    case round =>
     clear HO1 HS1
     obtain ⟨i, hgk2, hil, rfl, HO, HS⟩ := hrel
     obtain ⟨f0, f1, f2, f3⟩ := cells4 HS.out.box
     by_cases hlt : i < len
     ·obtain ⟨a, ha⟩ : ∃ a, B + 4 * i = a := ⟨_, rfl⟩
      have hA1 : (B : Int) + 4 * (i : Int) = (a : Int) := by omega
      have hAl : a < 4294967296 := by omega
      obtain ⟨p, hp⟩ : ∃ p, (a + 4294967292) % 4294967296 = p := ⟨_, rfl⟩
      have hA2 : ((a : Int) - 4) % 4294967296 = (p : Int) := by omega
      have hpl : p < 4294967296 := by omega
      have hpa : i ≠ 0 → B + 4 * i - 4 = p := fun h => by omega
      have HP := Lib.hid hpa
      have HA := Lib.hid ha
      obtain ⟨out, hout⟩ : ∃ out, boutD I nd B l s.lead i = out := ⟨_, rfl⟩
      rw [hout] at HO
      have HOUT := Lib.hid hout
      clear ha hp hpa hout
      go_wp2_with (go_at_call 33; refine hold_ ?_)
      intro _
      refine (has_calls (some ⟨g, 0, none⟩) c N l a wr HS.out.own.rdo HN.out (by omega)).mono ?_
      rintro e w1 ⟨rfl, rfl⟩
      by_cases hal : a ∈ l
      ·rw [show decide (a ∈ l) = true from decide_eq_true hal]
       have HAL := Lib.hid hal
       clear hal
       go_wp2_with (go_at_call 25; refine hold_ ?_)
       intro _
       refine (AT.out p wr hpl HS.out.bel).mono ?_
       rintro e w2 ⟨rfl, hb2⟩
       obtain ⟨⟨o1, o2, o3, o4, o5⟩, hx5⟩ : ∃ x, (I p).1 = x := ⟨_, rfl⟩
       rw [hx5]
       have HX5 := Lib.hid hx5
       have HS2 := Lib.hid (HS.out.below hb2)
       have HO2 := Lib.hid (HO.out.below hb2)
       clear hx5 hb2 HS HO f0 f1 f2 f3
       go_simp
       try rw [Oper.upon_value]
       go_upto_region 19 with fail
       obtain ⟨w3, hw3⟩ : ∃ w3, w3 = w2.alloc (.cells #[.int .i64 o1, .int .i64 o2, .int .i64 o3, .int .i64 o4, .int .i64 o5] 23) := ⟨_, rfl⟩
       obtain ⟨gb, hgb⟩ : ∃ gb, gb = w2.heap.size := ⟨_, rfl⟩
       have hb3 : Below w2.heap.size w2 w3 := by rw [hw3]; exact (Below.refl _ w2).alloc (Nat.le_refl _) _
       have HS3 := Lib.hid (HS2.out.below hb3)
       have HO3 := Lib.hid (HO2.out.below hb3)
       have KX := Lib.hid (show w3.heap[gb]? = some (.cells #[.int .i64 o1, .int .i64 o2, .int .i64 o3, .int .i64 o4, .int .i64 o5] 23 (0, 0)) by rw [hw3, hgb]; exact (MapKept.heap_alloc w2 _).1)
       try rw [← hw3]
       try rw [← hgb]
       clear hw3 hgb hb3 HS2 HO2
       go_cut [102] (fun s102 wx => ∃ q : Bool, s102 = .bool q ∧ Hid (Tells q (i = 0 ∨ ¬ (B + 4 * i - 4 ∈ l) ∨ nd (I (B + 4 * i - 4)).1 = true ∨ B + 4 * i ∈ s.lead)) ∧ Hid (RdSt n0 w wx B E A len cap S (.slice (some ⟨g, 0, none⟩) N c) l) ∧ Hid (OB wx n1 u12 out))
       case first =>
        by_cases hi0 : i = 0
        ·have b1 : ((i : Int) == 0) = true := beq_iff_eq.mpr (by omega)
         have HC := Lib.hid (show Tells true (i = 0 ∨ ¬ (B + 4 * i - 4 ∈ l) ∨ nd (I (B + 4 * i - 4)).1 = true ∨ B + 4 * i ∈ s.lead) from ⟨fun _ => .inl hi0, fun _ => rfl⟩)
         clear hi0
         go_wp2
         go_meet
         case rel => exact ⟨true, rfl, HC, HS3, HO3⟩
        ·have b1 : ((i : Int) == 0) = false := beq_eq_false_iff_ne.mpr (by omega)
         have HI0 := Lib.hid hi0
         clear hi0
         go_wp2_with (go_at_call 33; refine hold_ ?_)
         intro _
         refine (has_calls (some ⟨g, 0, none⟩) c N l p w3 HS3.out.own.rdo HN.out (by omega)).mono ?_
         rintro e w4 ⟨rfl, rfl⟩
         by_cases hpm : p ∈ l
         ·rw [show decide (p ∈ l) = true from decide_eq_true hpm]
          have HPM := Lib.hid hpm
          clear hpm
          obtain ⟨t0, t1, t2, t3, t4⟩ := cells5 (x := (o1, o2, o3, o4, o5)) KX.out
          simp only at t0 t1 t2 t3 t4
          go_wp2_with (go_at_call 16; refine hold_ ?_)
          intro _
          refine (EN.out o1 o2 o3 o4 o5 w3).mono ?_
          rintro e w5 ⟨rfl, hb5⟩
          have HS5 := Lib.hid (HS3.out.below hb5)
          have HO5 := Lib.hid (HO3.out.below hb5)
          obtain ⟨nv, hnv⟩ : ∃ b, nd (o1, o2, o3, o4, o5) = b := ⟨_, rfl⟩
          rw [hnv]
          have HNV := Lib.hid hnv
          clear hb5 hnv HS3 HO3 t0 t1 t2 t3 t4
          cases nv with
          | true =>
           have HC := Lib.hid (show Tells true (i = 0 ∨ ¬ (B + 4 * i - 4 ∈ l) ∨ nd (I (B + 4 * i - 4)).1 = true ∨ B + 4 * i ∈ s.lead) from ⟨fun _ => .inr (.inr (.inl (by rw [HP.out HI0.out, HX5.out]; exact HNV.out))), fun _ => rfl⟩)
           go_wp2
           go_meet
           case rel => exact ⟨true, rfl, HC, HS5, HO5⟩
          | false =>
           obtain ⟨f0, f1, f2, f3⟩ := cells4 HS5.out.box
           go_wp2_with (go_at_call 34; refine hold_ ?_)
           intro _
           refine (leader_calls B E A len cap S I aft nd es l a w5 A1 M c1 (some ⟨g, 0, none⟩) N c AF.out EN.out (fun a' w' ha hb => AT.out a' w' ha (HS5.out.bel.trans (hb.mono HS5.out.bel.size))) (fun x a => (A2.out x a).1) (HR.out.below HS5.out.bel) HM.out (by omega) HS5.out.own.rdo HN.out (by omega) hAl hE HRlt.out).mono ?_
           rintro e w6 ⟨q, rfl, hq, hb6⟩
           have HS6 := Lib.hid (HS5.out.below hb6)
           have HO6 := Lib.hid (HO5.out.below hb6)
           have HC := Lib.hid (show Tells q (i = 0 ∨ ¬ (B + 4 * i - 4 ∈ l) ∨ nd (I (B + 4 * i - 4)).1 = true ∨ B + 4 * i ∈ s.lead) by
            unfold Tells
            rw [hq, LeadP_iff HD.out HALL.out]
            refine ⟨fun h => .inr (.inr (.inr (by rw [HA.out]; exact h))), fun h => ?_⟩
            rcases h with h | h | h | h
            ·exact absurd h HI0.out
            ·exact absurd (by rw [HP.out HI0.out]; exact HPM.out) h
            ·rw [HP.out HI0.out, HX5.out, HNV.out] at h
             cases h
            ·rw [HA.out] at h
             exact h)
           clear hq hb6 HS5 HO5 f0 f1 f2 f3
           go_wp2
           go_meet
           case rel => exact ⟨q, rfl, HC, HS6, HO6⟩
         ·rw [show decide (p ∈ l) = false from decide_eq_false hpm]
          have HC := Lib.hid (show Tells true (i = 0 ∨ ¬ (B + 4 * i - 4 ∈ l) ∨ nd (I (B + 4 * i - 4)).1 = true ∨ B + 4 * i ∈ s.lead) from ⟨fun _ => .inr (.inl (by rw [HP.out HI0.out]; exact hpm)), fun _ => rfl⟩)
          clear hpm
          go_wp2
          go_meet
          case rel => exact ⟨true, rfl, HC, HS3, HO3⟩
       case rest =>
        obtain ⟨q, rfl, HC, HS4, HO4⟩ := hcut
        clear HS3 HO3 KX
        go_upto_if 102 with fail
        go_cut [12] (fun s12 wx => ∃ out2 : List (Nat × Nat), Hid (out2 = if (i = 0 ∨ ¬ (B + 4 * i - 4 ∈ l) ∨ nd (I (B + 4 * i - 4)).1 = true ∨ B + 4 * i ∈ s.lead) then out ++ [(B + 4 * i, 0)] else out) ∧ Hid (RdSt n0 w wx B E A len cap S (.slice (some ⟨g, 0, none⟩) N c) l) ∧ Hid (OB wx n1 s12 out2))
        case first =>
         have hob := boutD_facts I nd B l s.lead i
         rw [HOUT.out] at hob
         have hol : out.length < 100000000 := by have := hob.1; omega
         clear hob
         cases q with
         | true =>
          go_wp2_with (refine wp_appB rfl _ _ rfl n1 u12 out a 0 rfl HO4.out.own 1 rfl hol HO4.out.le ?_; intro v2 w7 ho7 hg7 hne7)
          have HS7 := Lib.hid (RdSt.far (n1 := n1) HS4.out hg7 (fun q hq => (World.ownsRow.lt HO4.out.own q hq).1) (fun q hq => by simp [Value.ownBlock] at hq; omega) hn01)
          have HO7 := Lib.hid (OB.mk ho7 (Nat.le_trans HO4.out.le hg7.size))
          clear hg7 ho7 hne7
          go_meet
          case rel => exact ⟨_, Lib.hid (by rw [if_pos (HC.out.1 rfl), HA.out]), HS7, HO7⟩
         | false =>
          go_wp2
          go_meet
          case rel => exact ⟨_, Lib.hid (by rw [if_neg (fun h => by have := HC.out.2 h; cases this)]), HS4, HO4⟩
        case rest =>
         obtain ⟨out2, HO2e, HS8, HO8⟩ := hcut
         have hne : out2 ≠ [] := by
          rw [HO2e.out]
          split
          ·simp
          ·rename_i hnc
           rw [← HOUT.out]
           have hi0 : i ≠ 0 := fun h => hnc (.inl h)
           have hm : B + 4 * i - 4 ∈ l := Classical.byContradiction fun h => hnc (.inr (.inl h))
           exact boutD_ne I nd B l s.lead i ⟨i - 1, by omega, by rw [show B + 4 * (i - 1) = B + 4 * i - 4 by omega]; exact hm⟩
         obtain ⟨L, ⟨x, cn⟩, rfl⟩ := list_last out2 hne
         have hcn : cn ≤ i ∧ L.length ≤ i := by
          obtain ⟨h1, h2⟩ := boutD_facts I nd B l s.lead i
          rw [HOUT.out] at h1 h2
          have e := HO2e.out
          split at e
          ·have e1 := congrArg List.length e
           rw [List.length_append, List.length_append, List.length_singleton, List.length_singleton] at e1
           have e2 : (x, cn) = (B + 4 * i, 0) := by
            have := List.append_inj_right' e rfl
            simpa using this
           injection e2 with e3 e4
           omega
          ·have h3 := h2 (x, cn) (by rw [← e]; simp)
           have e1 := congrArg List.length e
           rw [List.length_append, List.length_singleton] at e1
           exact ⟨h3, by omega⟩
         obtain ⟨g2, cap2, rfl⟩ : ∃ g2 cap2, u12 = .slice (some ⟨g2, 0, none⟩) (L ++ [(x, cn)]).length cap2 := by
          rcases HO8.out.own.2 with ⟨h1, h2⟩ | ⟨g2, cap2, cur, e, _⟩
          ·simp at h2
          ·exact ⟨g2, cap2, e⟩
         obtain ⟨kk, hkk⟩ : ∃ k, L.length = k := ⟨_, rfl⟩
         obtain ⟨NN, hNN⟩ : ∃ n, n = kk + 1 := ⟨_, rfl⟩
         have hlen2 : (L ++ [(x, cn)]).length = NN := by rw [List.length_append, hkk, hNN]; rfl
         have hk1 : (NN : Int) - 1 = (kk : Int) := by omega
         have hk2 : (kk : Int) < (NN : Int) := by omega
         have hk3 : (0 : Int) ≤ (kk : Int) := by omega
         have hk4 : kk < NN := by omega
         obtain ⟨q1, q2, q3, q4⟩ := OwnB.storeAll HO8.out.own
         have hs2 := OwnB.set2 HO8.out.own
         have hb9 := (World.ownsRow.lt HO8.out.own g2 rfl).1
         rw [hkk] at q1 q2 q3 q4 hs2
         simp only [hlen2] at HO8 ⊢
         rw [hkk] at hcn
         have HSET := Lib.hid hs2
         have hcn1 := hcn.1
         have hcn2 := hcn.2
         have HNN := Lib.hid hNN
         clear hs2 hkk hlen2 hcn hne hNN
         go_wp2
         have q1d : World.cell? { heap := wc.heap, tape := wc.tape, drawn := wc.drawn + 1, os := wc.os, output := wc.output } _ = _ := q1
         have q2d : World.cell? { heap := wc.heap, tape := wc.tape, drawn := wc.drawn + 1, os := wc.os, output := wc.output } _ = _ := q2
         go_still_tail 15, (by kernel_rfl)
         change wpList _ _ _ _ _ wc.drew
         clear q1d q2d
         go_wp2
         go_roundg (gk - 1)
         case measure => omega
         case rel =>
          obtain ⟨hs2, hg9⟩ := HSET.out
          have hd9 : Below ((wc.setCell ⟨g2, kk * 2, none⟩ (.int .u32 (x : Int))).setCell ⟨g2, kk * 2 + 1, none⟩ (.int .i64 ((cn : Int) + 1))).heap.size _ ((wc.setCell ⟨g2, kk * 2, none⟩ (.int .u32 (x : Int))).setCell ⟨g2, kk * 2 + 1, none⟩ (.int .i64 ((cn : Int) + 1))).drew := (Below.refl _ _).drew
          refine ⟨i + 1, by omega, by omega, by go_num, Lib.hid ?_, Lib.hid ?_⟩
          ·show OB _ _ _ (bstepD I nd B l s.lead (boutD I nd B l s.lead i) i)
           unfold bstepD
           rw [HOUT.out, if_pos (by rw [HA.out]; exact HAL.out), ← HO2e.out, HNN.out]
           exact OB.below ⟨hs2, Nat.le_trans HO8.out.le hg9.size⟩ hd9
          ·exact RdSt.below (RdSt.far (n1 := n1) HS8.out hg9 (fun q hq => by cases hq; exact hb9) (fun q hq => by simp [Value.ownBlock] at hq; omega) hn01) hd9
      ·rw [show decide (a ∈ l) = false from decide_eq_false hal]
       have HAL := Lib.hid hal
       clear hal
       go_wp2
       go_roundg (gk - 1)
       case measure => omega
       case rel =>
        refine ⟨i + 1, by omega, by omega, by go_num, Lib.hid ?_, HS⟩
        show OB _ _ _ (bstepD I nd B l s.lead (boutD I nd B l s.lead i) i)
        unfold bstepD
        rw [HA.out, if_neg HAL.out, HOUT.out]
        exact HO.out
     ·obtain rfl : len = i := by omega
      have hnlt : ¬ ((len : Int) < (len : Int)) := by omega
      go_wp2
      refine bodyPost_ret (results_tmp2 rfl _ _ _) rfl ?_
      have hRe : R = (boutD I nd B l s.lead len, 0) := by
       rw [← HRq.out]
       exact HD.out.outD B len hB hlen HV.out HALL.out HBN.out (fun a => Iff.rfl)
      rw [hRe]
      refine ⟨_, rfl, ?_, HS.out.bel⟩
      refine OwnB.lower HO.out.own (by have := HS.out.lo; omega)
   ·have b1 : (bad != 0) = true := by simp [hb0]
    have hR1 : R = ([], bad) := by
     have h1 := HD.out.err.2.1 (fun e => hb0 (e2.2 e))
     rw [← HRq.out, ← e1, ← h1]
    have HR1 := Lib.hid hR1
    clear hb0 hlb e1 e2 hR1 hkN'
    go_wp2
    refine bodyPost_ret (results_tmp2 rfl _ _ _) rfl ?_
    rw [HR1.out]
    exact ⟨_, rfl, World.ownsRow_nil _ _ _ _, HS.out.bel⟩
end Go.Proofs.Ytekenddkoahjgaa.Bl
