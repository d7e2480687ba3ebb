import Derived.Test.YtononmcodecmaaaJKF
import Derived.Test.YtononmcodecmaaaJLB
import Derived.Test.YtononmcodecmaaaJLA
import Derived.Test.YtononmcodecmaaaJQx
import Derived.WalkKit
import Derived.KernelRfl
import Derived.Below
import Derived.Outline
import Derived.LoopTactic
import Derived.Laws.BitsLemmas
import Derived.Laws.BitsAllLaws
import Derived.Deep.LoopGhost
import Derived.Lib.Hide
import Derived.Deep.QuietTactic
import Derived.BigQuiet
import Derived.Deep.Draws
import Derived.Laws.StructEq
import Derived.Deep.Slices
import Derived.Deep.Fields
import Derived.ChangeSame
import Derived.Deep.CutBlock
import Derived.Deep.DeepCutAuto
import Derived.Deep.RegionHeld3
import Derived.StillTailTactics
import Derived.WalkSmall
import Derived.OwnWalk
import Derived.Laws.OwnMore
import Derived.Laws.BytesArg
import Derived.Laws.MakeOwn
import Derived.Laws.Tables
import Derived.Laws.Rows
import Derived.Laws.World
import Derived.Deep.WholeRow
import Derived.OpenShut
import Derived.WideShapes
import Derived.ProofKit
import Derived.ChangeKeysEq
import Derived.BigFrame
section
/- Layer 4: the machine (part KG). -/
namespace Go.Proofs.Ytononmcodecmaaa.Cp
open Go.RowKit Go.Maps Go.Proofs Go.Proofs.YtononmcodecmaaaW Go.Proofs.YtononmcodecmaaaW.PrintWords
set_option maxRecDepth 100000
set_option linter.unusedVariables false
set_option linter.unusedSimpArgs false
attribute [local go_sem] cv_set cv_at cv_size
def decT (v : Nat) : Int × Int × Int × Int × Int × Int := (Q.inst_Decode.f 200 (v : Int)).getD (0, 0, 0, 0, 0, 20)
theorem frm_op (op : Int) (h : Q.frm op ≠ 0) : 0 ≤ op ∧ op < 47 := by
 unfold Q.frm at h
 split at h
 ·assumption
 ·exact absurd rfl h
theorem right_op (op rd a b m : Int) (h : Q.rightv op rd a b m = true) : 0 ≤ op ∧ op < 47 := by
 unfold Q.rightv at h
 simp only [Bool.and_eq_true, decide_eq_true_eq] at h
 exact frm_op op h.1
theorem decT_facts (v : Nat) (hv : v < 4294967296) : Q.inst_Decode.f 200 (v : Int) = some (decT v) ∧ (((decT v).2.2.2.2.2 = 0 ∧ Q.rightv (decT v).1 (decT v).2.1 (decT v).2.2.1 (decT v).2.2.2.1 (decT v).2.2.2.2.1 = true) ∨ (decT v).2.2.2.2.2 = 20) := by
 unfold decT
 rcases Q.Dec_enc v hv with ⟨a0, a1, a2, a3, a4, h1, _, h3⟩ | h
 ·rw [h1 200 (by omega)]
  exact ⟨rfl, Or.inl ⟨rfl, h3⟩⟩
 ·rw [h 200 (by omega)]
  exact ⟨rfl, Or.inr rfl⟩
theorem Decode_c (v : Nat) (hv : v < 4294967296) (op rd a b m e : Int) (h : decT v = (op, rd, a, b, m, e)) (w : World) : Calls Try.prog 36 #[.int .u32 v] w fun x w' => x = .returned (.tuple #[.agg #[.int .i64 op, .int .i64 rd, .int .i64 a, .int .i64 b, .int .i64 m], .int .i64 e]) ∧ Below w.heap.size w w' :=
 Q.inst_Decode.calls 200 v op rd a b m e w (by rw [(decT_facts v hv).1, h])
def takenv (op u v : Int) : Bool := (Q.cpu_taken.f op u v).getD false
theorem taken_c (op u v : Int) (w : World) : Calls Try.prog 38 #[.int .i64 op, .int .u32 u, .int .u32 v] w fun e w' => e = .returned (.bool (takenv op u v)) ∧ Below w.heap.size w w' :=
 (Q.cpu_taken.calls op u v (takenv op u v) w (by
  unfold takenv
  have : ∃ r, Q.cpu_taken.f op u v = some r := by
   refine Option.isSome_iff_exists.1 ?_
   unfold Q.cpu_taken.f
   repeat' split
   all_goals rfl
  obtain ⟨r, hr⟩ := this
  rw [hr]
  rfl)).mono fun _ _ h => ⟨h.1, h.2.below⟩
def setl (c : List Int) (rd : Nat) (v : Int) : List Int := if rd = 0 then c else c.set rd v
theorem setl_len (c : List Int) (rd : Nat) (v : Int) : (setl c rd v).length = c.length := by unfold setl; split <;> simp
def jumpv (c : List Int) (f : Nat → Nat) (op rd a b m : Int) : List Int × (Nat → Nat) × Int :=
 if op = 2 then ((setl c rd.toNat ((reg c 32 + 4) % 4294967296)).set 32 ((reg c 32 + m) % 4294967296), f, 0)
 else if op = 3 then ((setl c rd.toNat ((reg c 32 + 4) % 4294967296)).set 32 ((reg c a.toNat + m) % 4294967296 - (reg c a.toNat + m) % 4294967296 % 2), f, 0)
 else if Q.frm op = 66 then (c.set 32 (if takenv op (reg c a.toNat) (reg c b.toNat) = true then (reg c 32 + m) % 4294967296 else (reg c 32 + 4) % 4294967296), f, 0)
 else if op = 45 then (c.set 32 ((reg c 32 + 4) % 4294967296), f, 1)
 else if op = 46 then (c, f, 2)
 else accessv c f op rd a b m
def stepv (c : List Int) (f : Nat → Nat) : List Int × (Nat → Nat) × Int :=
 if reg (c.set 0 0) 32 % 4 ≠ 0 then (c.set 0 0, f, 4)
 else
  if (decT (Mm.ld f (reg (c.set 0 0) 32).toNat 4)).2.2.2.2.2 ≠ 0 then (c.set 0 0, f, 3)
  else
   if (doesv (c.set 0 0) (decT (Mm.ld f (reg (c.set 0 0) 32).toNat 4)).1 (decT (Mm.ld f (reg (c.set 0 0) 32).toNat 4)).2.1 (decT (Mm.ld f (reg (c.set 0 0) 32).toNat 4)).2.2.1 (decT (Mm.ld f (reg (c.set 0 0) 32).toNat 4)).2.2.2.1 (decT (Mm.ld f (reg (c.set 0 0) 32).toNat 4)).2.2.2.2.1).2 = true
   then ((doesv (c.set 0 0) (decT (Mm.ld f (reg (c.set 0 0) 32).toNat 4)).1 (decT (Mm.ld f (reg (c.set 0 0) 32).toNat 4)).2.1 (decT (Mm.ld f (reg (c.set 0 0) 32).toNat 4)).2.2.1 (decT (Mm.ld f (reg (c.set 0 0) 32).toNat 4)).2.2.2.1 (decT (Mm.ld f (reg (c.set 0 0) 32).toNat 4)).2.2.2.2.1).1, f, 0)
   else jumpv (c.set 0 0) f (decT (Mm.ld f (reg (c.set 0 0) 32).toNat 4)).1 (decT (Mm.ld f (reg (c.set 0 0) 32).toNat 4)).2.1 (decT (Mm.ld f (reg (c.set 0 0) 32).toNat 4)).2.2.1 (decT (Mm.ld f (reg (c.set 0 0) 32).toNat 4)).2.2.2.1 (decT (Mm.ld f (reg (c.set 0 0) 32).toNat 4)).2.2.2.2.1
theorem Wc.does {c : List Int} (h : Wc c) (op rd a b m : Int) : Wc (doesv c op rd a b m).1 := by
 have h0 := h.set 0 0 (by omega)
 unfold doesv
 split
 ·split
  ·exact h0.rset _ _ (plainv_rng h0 _ _ _ _)
  ·exact h0
 ·exact h0
theorem does_no (c : List Int) (op rd a b m : Int) (hr : Q.rightv op rd a b m = true) (h : (doesv c op rd a b m).2 = false) (h2 : op ≠ 2) (h3 : op ≠ 3) (hB : Q.frm op ≠ 66) (h45 : op ≠ 45) (h46 : op ≠ 46) : 10 ≤ op ∧ op ≤ 17 := by
 have ho := right_op op rd a b m hr
 unfold doesv at h
 rw [if_pos hr] at h
 have hp : (plainv (c.set 0 0) op a.toNat b.toNat m).2 = false := by
  by_cases hq : (plainv (c.set 0 0) op a.toNat b.toNat m).2 = true
  ·rw [if_pos hq] at h; cases h
  ·simpa using hq
 have hn0 : op ≠ 0 := by rintro rfl; rw [plainv_0] at hp; cases hp
 have hn1 : op ≠ 1 := by rintro rfl; rw [plainv_1] at hp; cases hp
 have hnB : ¬ (4 ≤ op ∧ op ≤ 9) := by
  intro hh
  have e : ∀ n : Fin 6, Q.frm (4 + (n.val : Int)) = 66 := by decide +kernel
  have := e ⟨(op - 4).toNat, by omega⟩
  rw [show (4 + ((⟨(op - 4).toNat, by omega⟩ : Fin 6).val : Int)) = op by simp only; omega] at this
  exact hB this
 obtain ⟨q, i, hq⟩ : ∃ q i, plo op = (q, i) := ⟨_, _, rfl⟩
 have hi : i = false := by
  cases i
  ·rfl
  ·obtain ⟨v, e, hd⟩ : ∃ v e, dov q (reg (c.set 0 0) a.toNat) (m % 4294967296) = (v, e) := ⟨_, _, rfl⟩
   rw [plainv_i _ _ _ _ _ _ _ _ hn0 hn1 hq hd] at hp
   cases hp
 subst hi
 have hni : ¬ (18 ≤ op ∧ op ≤ 26) := by
  intro hh
  have := (plo_vals ⟨(op - 18).toNat, by omega⟩).1
  rw [show (18 + ((⟨(op - 18).toNat, by omega⟩ : Fin 9).val : Int)) = op by simp only; omega, hq] at this
  cases this
 have hnr : ¬ (27 ≤ op ∧ op ≤ 44) := by
  intro hh
  obtain ⟨v, e, hd⟩ : ∃ v e, dov op (reg (c.set 0 0) a.toNat) (reg (c.set 0 0) b.toNat) = (v, e) := ⟨_, _, rfl⟩
  rw [plainv_r _ _ _ _ _ _ _ _ hn0 hn1 hq hd] at hp
  simp only [decide_eq_false_iff_not] at hp
  have he : (dov op (reg (c.set 0 0) a.toNat) (reg (c.set 0 0) b.toNat)).2 = 0 := by
   unfold dov Q.doW
   by_cases k27 : op = 27; · rw [if_pos k27]
   rw [if_neg k27]
   by_cases k28 : op = 28; · rw [if_pos k28]
   rw [if_neg k28]
   by_cases k36 : op = 36; · rw [if_pos k36]
   rw [if_neg k36]
   by_cases k35 : op = 35; · rw [if_pos k35]
   rw [if_neg k35]
   by_cases k32 : op = 32; · rw [if_pos k32]
   rw [if_neg k32]
   by_cases k29 : op = 29; · rw [if_pos k29]
   rw [if_neg k29]
   by_cases k33 : op = 33; · rw [if_pos k33]
   rw [if_neg k33]
   by_cases k34 : op = 34; · rw [if_pos k34]
   rw [if_neg k34]
   by_cases k30 : op = 30; · rw [if_pos k30]
   rw [if_neg k30]
   by_cases k31 : op = 31; · rw [if_pos k31]
   rw [if_neg k31]
   by_cases k37 : op = 37; · rw [if_pos k37]
   rw [if_neg k37]
   by_cases kh : op = 38 ∨ op = 39 ∨ op = 40; · rw [if_pos kh]
   rw [if_neg kh]
   by_cases kd : op = 41 ∨ op = 42 ∨ op = 43 ∨ op = 44; · rw [if_pos kd]
   omega
  rw [hd] at he
  exact hp he
 omega
end Go.Proofs.Ytononmcodecmaaa.Cp
end
section
/- Layer 4: the machine (part KH). -/
namespace Go.Proofs.Ytononmcodecmaaa.Cp
open Go.RowKit Go.Maps Go.Proofs Go.Proofs.YtononmcodecmaaaW Go.Proofs.YtononmcodecmaaaW.PrintWords
set_option maxRecDepth 100000
set_option linter.unusedVariables false
set_option linter.unusedSimpArgs false
attribute [local go_sem] cv_set cv_at cv_size
theorem stN {ops : Array Oper} {rest : List Oper} {o : Oper} {a : Act} {w : World} {Q : Exit → Act → World → Prop} (hgd : o.guard = none) (x y : Operand) (ho : o.op = .store 25 x y)
  (c : List Int) (hx : a.eval x = .pointer (some ⟨w.heap.size, 0, none⟩)) (hy : a.eval y = .agg (cv c)) (old : List Int)
  (hc : c.length = 33) (ho2 : old.length = 33) (h : wpList Try.prog ops Q rest (a.put o.dst undef) (w.alloc (.cells (cv c) 25))) : wpList Try.prog ops Q (o :: rest) a (w.alloc (.cells (cv old) 25)) := by
 refine stC hgd x y ho w.heap.size c hx hy old (heap_alloc_new _ _) hc ho2 ?_
 rw [World.setRow_alloc_new]
 exact h
set_option maxHeartbeats 4000000 in
theorem Step_mis (c : List Int) (hc : Wc c) (p bl n : Nat) (f : Nat → Nat) (w : World) (hM : Mm.MemAt w p bl n f) (hn : n < 80000000) (hmis : reg (c.set 0 0) 32 % 4 ≠ 0) :
  Calls Try.prog 15 #[.agg (cv c), .pointer (some ⟨p, 0, none⟩)] w fun e w' => e = .returned (.tuple #[.agg (cv (c.set 0 0)), .int .i64 (4)]) ∧ Post w w' p bl n (f) := by
 have hl := hc.len
 have hc0 : Wc (c.set 0 0) := hc.set 0 0 (by omega)
 have hl0 := hc0.len
 have hf := hM.map.2.1
 have HM := Lib.hid hM
 have hlp := hM.lt
 have hlb := hM.map.lt
 clear hM
 obtain ⟨pc, hpc⟩ : ∃ pc : Nat, reg (c.set 0 0) 32 = (pc : Int) := ⟨(reg (c.set 0 0) 32).toNat, by have := hc0.rng 32; omega⟩
 have hpc2 : pc < 4294967296 := by have := hc0.rng 32; omega
 have hal : ¬ (pc : Int) % 4 = 0 := by rw [← hpc]; exact hmis
 have htm : Int.tmod (pc : Int) 4 = ((pc % 4 : Nat) : Int) := rfl
 have hm3 : (((pc % 4 : Nat) : Int) != 0) = true := bne_iff_ne.mpr (by omega)
 have hm4 : ((pc : Int) % 4 != 0) = true := bne_iff_ne.mpr hal
 clear hmis hal
 have hB : Below w.heap.size w ((w.alloc (.cells (cv (c.set 0 0)) 25)).alloc (.cells (cv zs) 25)) := ((Below.refl _ w).alloc (Nat.le_refl _) _).alloc (by simp) _
 have HB := Lib.hid hB
 clear hB
 go_enter Try.func15, Try.ntmps15
 go_wp2_with (first | refine alC rfl rfl ?_ | refine ldC rfl _ rfl _ rfl _ (0, 0) (heap_alloc2_old _ _ _) hl0 ?_ | refine stC rfl _ _ rfl _ _ rfl rfl zs (heap_alloc2_new _ _ _) hl0 rfl ?_)
 refine retC2 rfl rfl (setRow_heap _ _ _ _ _ _ (heap_alloc2_new _ _ _)) hl0 rfl rfl ⟨rfl, postB HM.out (below_setRow HB.out (by simp) _)⟩
set_option maxHeartbeats 4000000 in
theorem Step_ill (c : List Int) (hc : Wc c) (p bl n : Nat) (f : Nat → Nat) (w : World) (hM : Mm.MemAt w p bl n f) (hn : n < 80000000) (hmis : reg (c.set 0 0) 32 % 4 = 0) (op rd a b m e : Int) (hdec : decT (Mm.ld f (reg (c.set 0 0) 32).toNat 4) = (op, rd, a, b, m, e)) (he : e ≠ 0) :
    Calls Try.prog 15 #[.agg (cv c), .pointer (some ⟨p, 0, none⟩)] w fun e w' => e = .returned (.tuple #[.agg (cv (c.set 0 0)), .int .i64 (3)]) ∧ Post w w' p bl n (f) := by
  have hl := hc.len
  have hc0 : Wc (c.set 0 0) := hc.set 0 0 (by omega)
  have hl0 := hc0.len
  have hf := hM.map.2.1
  have HM := Lib.hid hM
  have hlp := hM.lt
  have hlb := hM.map.lt
  clear hM
  obtain ⟨pc, hpc⟩ : ∃ pc : Nat, reg (c.set 0 0) 32 = (pc : Int) := ⟨(reg (c.set 0 0) 32).toNat, by have := hc0.rng 32; omega⟩
  have hpc2 : pc < 4294967296 := by have := hc0.rng 32; omega
  have hal : (pc : Int) % 4 = 0 := by rw [← hpc]; exact hmis
  have htm : Int.tmod (pc : Int) 4 = 0 := by have : Int.tmod (pc : Int) 4 = ((pc % 4 : Nat) : Int) := rfl
                                             omega
  have hpv : (reg (c.set 0 0) 32).toNat = pc := by omega
  have hld := Mm.ld_lt f pc 4 hf
  obtain ⟨v, hv⟩ : ∃ v, v = Mm.ld f pc 4 := ⟨_, rfl⟩
  rw [hpv] at hdec
  rw [← hv] at hld hdec
  have hv2 : v < 4294967296 := by simpa using hld
  have HV := Lib.hid hv
  have HD := Lib.hid (Decode_c v hv2 op rd a b m e hdec)
  clear hv hld hdec hpv hmis hf
  have HM2 := Lib.hid ((HM.out.alloc (.cells (cv (c.set 0 0)) 25)).alloc (.cells (cv zs) 25))
  have be : (e != 0) = true := bne_iff_ne.mpr he
  clear he
  go_enter Try.func15, Try.ntmps15
  go_wp2_with (first | refine alC rfl rfl ?_ | (go_at_call 35; refine hold_ ?_))
  intro _
  refine (Mm.Load_at HM2.out pc 4 v _ _ rfl rfl HV.out hpc2 (by omega)).mono ?_
  rintro x w2 ⟨rfl, hw2⟩
  go_wp2_with (go_at_call 36; refine hold_ ?_)
  intro _
  refine (HD.out _).mono ?_
  rintro x w4 ⟨rfl, hbw⟩
  rw [← hw2] at hbw
  obtain ⟨k0, k1, hz, hB⟩ := keep2 hbw
  clear hbw HD HV HM2 hw2
  have HB := Lib.hid hB
  have K0 := Lib.hid k0
  have K1 := Lib.hid k1
  clear hB k0 k1
  have K0x := Lib.hid ((Below.heap_alloc w4 (.cells #[.int .i64 op, .int .i64 rd, .int .i64 a, .int .i64 b, .int .i64 m] 27) w.heap.size (by omega)).trans K0.out)
  have K1x := Lib.hid ((Below.heap_alloc w4 (.cells #[.int .i64 op, .int .i64 rd, .int .i64 a, .int .i64 b, .int .i64 m] 27) (w.heap.size + 1) (by omega)).trans K1.out)
  have HBx := Lib.hid (HB.out.alloc (by omega) (.cells #[.int .i64 op, .int .i64 rd, .int .i64 a, .int .i64 b, .int .i64 m] 27))
  go_wp2_with (first | refine ldC rfl _ rfl _ rfl _ (0, 0) K0x.out hl0 ?_ | refine stC rfl _ _ rfl _ _ rfl rfl zs K1x.out hl0 rfl ?_)
  refine retC2 rfl rfl (setRow_heap _ _ _ _ _ _ K1x.out) hl0 rfl rfl ⟨rfl, postB HM.out (below_setRow HBx.out (by omega) _)⟩
set_option maxHeartbeats 4000000 in
theorem Step_does (c : List Int) (hc : Wc c) (p bl n : Nat) (f : Nat → Nat) (w : World) (hM : Mm.MemAt w p bl n f) (hn : n < 80000000) (hmis : reg (c.set 0 0) 32 % 4 = 0) (op rd a b m e : Int) (hdec : decT (Mm.ld f (reg (c.set 0 0) 32).toNat 4) = (op, rd, a, b, m, e)) (he : e = 0) (d : List Int) (hd : doesv (c.set 0 0) op rd a b m = (d, true)) :
    Calls Try.prog 15 #[.agg (cv c), .pointer (some ⟨p, 0, none⟩)] w fun e w' => e = .returned (.tuple #[.agg (cv (d)), .int .i64 (0)]) ∧ Post w w' p bl n (f) := by
  have hl := hc.len
  have hc0 : Wc (c.set 0 0) := hc.set 0 0 (by omega)
  have hl0 := hc0.len
  have hf := hM.map.2.1
  have HM := Lib.hid hM
  have hlp := hM.lt
  have hlb := hM.map.lt
  clear hM
  obtain ⟨pc, hpc⟩ : ∃ pc : Nat, reg (c.set 0 0) 32 = (pc : Int) := ⟨(reg (c.set 0 0) 32).toNat, by have := hc0.rng 32; omega⟩
  have hpc2 : pc < 4294967296 := by have := hc0.rng 32; omega
  have hal : (pc : Int) % 4 = 0 := by rw [← hpc]; exact hmis
  have htm : Int.tmod (pc : Int) 4 = 0 := by have : Int.tmod (pc : Int) 4 = ((pc % 4 : Nat) : Int) := rfl
                                             omega
  have hpv : (reg (c.set 0 0) 32).toNat = pc := by omega
  have hld := Mm.ld_lt f pc 4 hf
  obtain ⟨v, hv⟩ : ∃ v, v = Mm.ld f pc 4 := ⟨_, rfl⟩
  rw [hpv] at hdec
  rw [← hv] at hld hdec
  have hv2 : v < 4294967296 := by simpa using hld
  have HV := Lib.hid hv
  have HD := Lib.hid (Decode_c v hv2 op rd a b m e hdec)
  clear hv hld hdec hpv hmis hf
  have HM2 := Lib.hid ((HM.out.alloc (.cells (cv (c.set 0 0)) 25)).alloc (.cells (cv zs) 25))
  subst he
  have hds := Does_calls (c.set 0 0) hc0 op rd a b m
  have hld := (hc0.does op rd a b m).len
  rw [hd] at hds hld
  simp only at hds hld
  have HDS := Lib.hid hds
  clear hds hd
  go_enter Try.func15, Try.ntmps15
  go_wp2_with (first | refine alC rfl rfl ?_ | (go_at_call 35; refine hold_ ?_))
  intro _
  refine (Mm.Load_at HM2.out pc 4 v _ _ rfl rfl HV.out hpc2 (by omega)).mono ?_
  rintro x w2 ⟨rfl, hw2⟩
  go_wp2_with (go_at_call 36; refine hold_ ?_)
  intro _
  refine (HD.out _).mono ?_
  rintro x w4 ⟨rfl, hbw⟩
  rw [← hw2] at hbw
  obtain ⟨k0, k1, hz, hB⟩ := keep2 hbw
  clear hbw HD HV HM2 hw2
  have HB := Lib.hid hB
  have K0 := Lib.hid k0
  have K1 := Lib.hid k1
  clear hB k0 k1
  have K0x := Lib.hid ((Below.heap_alloc w4 (.cells #[.int .i64 op, .int .i64 rd, .int .i64 a, .int .i64 b, .int .i64 m] 27) w.heap.size (by omega)).trans K0.out)
  have K1x := Lib.hid ((Below.heap_alloc w4 (.cells #[.int .i64 op, .int .i64 rd, .int .i64 a, .int .i64 b, .int .i64 m] 27) (w.heap.size + 1) (by omega)).trans K1.out)
  have HBx := Lib.hid (HB.out.alloc (by omega) (.cells #[.int .i64 op, .int .i64 rd, .int .i64 a, .int .i64 b, .int .i64 m] 27))
  go_wp2_with (first | refine ldC rfl _ rfl _ rfl _ (0, 0) K0x.out hl0 ?_ | (go_at_call 9; refine hold_ ?_))
  intro _
  refine (HDS.out _).mono ?_
  rintro x w5 ⟨rfl, hbw⟩
  have KX := Lib.hid ((hbw.block w4.heap.size (by simp)).trans (World.alloc_heap_new w4 (.cells #[.int .i64 op, .int .i64 rd, .int .i64 a, .int .i64 b, .int .i64 m] 27)))
  have K0y := Lib.hid ((hbw.block w.heap.size (by simp; omega)).trans K0x.out)
  have K1y := Lib.hid ((hbw.block (w.heap.size + 1) (by simp; omega)).trans K1x.out)
  have HBy := Lib.hid (belowS hbw HBx.out)
  have hz5 : w4.heap.size + 1 ≤ w5.heap.size := by have := hbw.size; simpa using this
  obtain ⟨gx, hgx⟩ : ∃ gx, gx = w4.heap.size := ⟨_, rfl⟩
  rw [← hgx] at KX hz hz5 ⊢
  clear hbw K0 K1 HB K0x K1x HBx HDS hgx
  have K1z := Lib.hid ((Below.heap_alloc w5 (.cells (cv d) 25) (w.heap.size + 1) (by omega)).trans K1y.out)
  have HBz := Lib.hid (HBy.out.alloc (by omega) (.cells (cv d) 25))
  go_wp2_with (first | refine alC rfl rfl ?_ | refine stN rfl _ _ rfl _ rfl rfl zs hld rfl ?_ | refine ldC rfl _ rfl _ rfl _ (0, 0) (heap_alloc_new _ _) hld ?_ | refine stC rfl _ _ rfl _ _ rfl rfl zs K1z.out hld rfl ?_)
  refine retC2 rfl rfl (setRow_heap _ _ _ _ _ _ K1z.out) hld rfl rfl ⟨rfl, postB HM.out (below_setRow HBz.out (by omega) _)⟩
end Go.Proofs.Ytononmcodecmaaa.Cp
end
section
/- Layer 4: the machine (part KI). -/
namespace Go.Proofs.Ytononmcodecmaaa.Cp
open Go.RowKit Go.Maps Go.Proofs Go.Proofs.YtononmcodecmaaaW Go.Proofs.YtononmcodecmaaaW.PrintWords
set_option maxRecDepth 100000
set_option linter.unusedVariables false
set_option linter.unusedSimpArgs false
attribute [local go_sem] cv_set cv_at cv_size
theorem accessv_len (c : List Int) (f : Nat → Nat) (op rd a b m : Int) (hl : c.length = 33) : (accessv c f op rd a b m).1.length = 33 := by
 unfold accessv
 split
 ·exact hl
 split
 ·rw [List.length_set]; exact hl
 ·rw [rset_len]; exact hl
theorem even_of (tt : Nat) (h : tt < 4294967296) : tt &&& 4294967294 = tt - tt % 2 := by
 apply Nat.eq_of_testBit_eq
 intro i
 cases i with
 | zero =>
  rw [Nat.testBit_and]
  simp only [Nat.testBit_zero]
  rw [show (4294967294 : Nat) % 2 = 0 from rfl, show (tt - tt % 2) % 2 = 0 by omega]
  simp
 | succ i =>
  rw [Nat.testBit_and, Nat.testBit_succ, Nat.testBit_succ, Nat.testBit_succ, show (4294967294 : Nat) / 2 = 2 ^ 31 - 1 from rfl, Nat.testBit_two_pow_sub_one, show (tt - tt % 2) / 2 = tt / 2 by omega]
  by_cases hi : i < 31
  ·simp [hi]
  ·have : (tt / 2).testBit i = false := Nat.testBit_lt_two_pow (Nat.lt_of_lt_of_le (show tt / 2 < 2 ^ 31 by omega) (Nat.pow_le_pow_right (by omega) (by omega)))
   rw [this]
   simp
set_option maxHeartbeats 4000000 in
theorem Step_jal (c : List Int) (hc : Wc c) (p bl n : Nat) (f : Nat → Nat) (w : World) (hM : Mm.MemAt w p bl n f) (hn : n < 80000000) (hmis : reg (c.set 0 0) 32 % 4 = 0) (op rd a b m e : Int) (hdec : decT (Mm.ld f (reg (c.set 0 0) 32).toNat 4) = (op, rd, a, b, m, e)) (he : e = 0) (r x y : Nat) (hrd : rd = r) (hra : a = x) (hrb : b = y) (hr1 : r < 32) (hx : x < 32) (hy : y < 32) (d : List Int) (hd : doesv (c.set 0 0) op rd a b m = (d, false)) (ho : op = 2) :
    Calls Try.prog 15 #[.agg (cv c), .pointer (some ⟨p, 0, none⟩)] w fun e w' => e = .returned (.tuple #[.agg (cv ((setl (c.set 0 0) r ((reg (c.set 0 0) 32 + 4) % 4294967296)).set 32 ((reg (c.set 0 0) 32 + m) % 4294967296))), .int .i64 (0)]) ∧ Post w w' p bl n (f) := by
  have hl := hc.len
  have hc0 : Wc (c.set 0 0) := hc.set 0 0 (by omega)
  have hl0 := hc0.len
  have hf := hM.map.2.1
  have HM := Lib.hid hM
  have hlp := hM.lt
  have hlb := hM.map.lt
  clear hM
  obtain ⟨pc, hpc⟩ : ∃ pc : Nat, reg (c.set 0 0) 32 = (pc : Int) := ⟨(reg (c.set 0 0) 32).toNat, by have := hc0.rng 32; omega⟩
  have hpc2 : pc < 4294967296 := by have := hc0.rng 32; omega
  have hal : (pc : Int) % 4 = 0 := by rw [← hpc]; exact hmis
  have htm : Int.tmod (pc : Int) 4 = 0 := by have : Int.tmod (pc : Int) 4 = ((pc % 4 : Nat) : Int) := rfl
                                             omega
  have hpv : (reg (c.set 0 0) 32).toNat = pc := by omega
  have hld := Mm.ld_lt f pc 4 hf
  obtain ⟨v, hv⟩ : ∃ v, v = Mm.ld f pc 4 := ⟨_, rfl⟩
  rw [hpv] at hdec
  rw [← hv] at hld hdec
  have hv2 : v < 4294967296 := by simpa using hld
  have HV := Lib.hid hv
  have HD := Lib.hid (Decode_c v hv2 op rd a b m e hdec)
  clear hv hld hdec hpv hmis hf
  have HM2 := Lib.hid ((HM.out.alloc (.cells (cv (c.set 0 0)) 25)).alloc (.cells (cv zs) 25))
  subst he
  subst hrd
  subst hra
  subst hrb
  have hx' : (x : Int) < 32 := by omega
  have hy' : (y : Int) < 32 := by omega
  have hds := Does_calls (c.set 0 0) hc0 op r x y m
  have hld := (hc0.does op r x y m).len
  rw [hd] at hds hld
  simp only at hds hld
  have HDS := Lib.hid hds
  have HFM := Lib.hid (Form_c op)
  clear hds hd
  subst ho
  have HS := Lib.hid (set_calls (c.set 0 0) hl0 r hr1 ((reg (c.set 0 0) 32 + 4) % 4294967296))
  have hl1 := (setl_len (c.set 0 0) r ((reg (c.set 0 0) 32 + 4) % 4294967296)).trans hl0
  unfold setl at hl1 ⊢
  generalize (if r = 0 then c.set 0 0 else (c.set 0 0).set r ((reg (c.set 0 0) 32 + 4) % 4294967296)) = d1 at *
  rw [hpc] at HS ⊢
  go_enter Try.func15, Try.ntmps15
  go_wp2_with (first | refine alC rfl rfl ?_ | (go_at_call 35; refine hold_ ?_))
  intro _
  refine (Mm.Load_at HM2.out pc 4 v _ _ rfl rfl HV.out hpc2 (by omega)).mono ?_
  rintro x w2 ⟨rfl, hw2⟩
  go_wp2_with (go_at_call 36; refine hold_ ?_)
  intro _
  refine (HD.out _).mono ?_
  rintro x w4 ⟨rfl, hbw⟩
  rw [← hw2] at hbw
  obtain ⟨k0, k1, hz, hB⟩ := keep2 hbw
  clear hbw HD HV HM2 hw2
  have HB := Lib.hid hB
  have K0 := Lib.hid k0
  have K1 := Lib.hid k1
  clear hB k0 k1
  have K0x := Lib.hid ((Below.heap_alloc w4 (.cells #[.int .i64 2, .int .i64 r, .int .i64 x, .int .i64 y, .int .i64 m] 27) w.heap.size (by omega)).trans K0.out)
  have K1x := Lib.hid ((Below.heap_alloc w4 (.cells #[.int .i64 2, .int .i64 r, .int .i64 x, .int .i64 y, .int .i64 m] 27) (w.heap.size + 1) (by omega)).trans K1.out)
  have HBx := Lib.hid (HB.out.alloc (by omega) (.cells #[.int .i64 2, .int .i64 r, .int .i64 x, .int .i64 y, .int .i64 m] 27))
  go_wp2_with (first | refine ldC rfl _ rfl _ rfl _ (0, 0) K0x.out hl0 ?_ | (go_at_call 9; refine hold_ ?_))
  intro _
  refine (HDS.out _).mono ?_
  rintro x w5 ⟨rfl, hbw⟩
  have KX := Lib.hid ((hbw.block w4.heap.size (by simp)).trans (World.alloc_heap_new w4 (.cells #[.int .i64 2, .int .i64 r, .int .i64 x, .int .i64 y, .int .i64 m] 27)))
  have K0y := Lib.hid ((hbw.block w.heap.size (by simp; omega)).trans K0x.out)
  have K1y := Lib.hid ((hbw.block (w.heap.size + 1) (by simp; omega)).trans K1x.out)
  have HBy := Lib.hid (belowS hbw HBx.out)
  have hz5 : w4.heap.size + 1 ≤ w5.heap.size := by have := hbw.size; simpa using this
  obtain ⟨gx, hgx⟩ : ∃ gx, gx = w4.heap.size := ⟨_, rfl⟩
  rw [← hgx] at KX hz hz5 ⊢
  clear hbw K0 K1 HB K0x K1x HBx HDS hgx
  have x0 := cellOf KX.out 0
  simp at x0
  have hzx : gx < w5.heap.size := by omega
  have hzy : gx < w5.heap.size + 1 := by omega
  go_wp2_with (first | refine alC rfl rfl ?_ | refine stN rfl _ _ rfl _ rfl rfl zs hld rfl ?_ | (go_at_call 37; refine hold_ ?_))
  intro _
  refine (HFM.out _).mono ?_
  rintro q w7 ⟨rfl, hbw⟩
  have K0 := Lib.hid ((hbw.block w.heap.size (by simp; omega)).trans ((Below.heap_alloc w5 _ w.heap.size (by omega)).trans K0y.out))
  have K1 := Lib.hid ((hbw.block (w.heap.size + 1) (by simp; omega)).trans ((Below.heap_alloc w5 _ (w.heap.size + 1) (by omega)).trans K1y.out))
  have KX' := Lib.hid ((hbw.block gx (by simp; omega)).trans ((Below.heap_alloc w5 _ gx (by omega)).trans KX.out))
  have HB := Lib.hid (belowS hbw (HBy.out.alloc (by omega) _))
  have hz7 : gx + 1 ≤ w7.heap.size := by have := hbw.size; simp at this; omega
  clear hbw x0 hzx hzy K0y K1y KX HBy HFM
  have KX := KX'
  clear KX'
  have x0 := cellOf KX.out 0
  have x1 := cellOf KX.out 1
  have x2 := cellOf KX.out 2
  have x3 := cellOf KX.out 3
  have x4 := cellOf KX.out 4
  simp at x0 x1 x2 x3 x4
  have hzx : gx < w7.heap.size := by omega
  have hz0 : w.heap.size < w7.heap.size := by omega
  have cpc := cellC K0.out hl0 32 (by omega)
  rw [hpc] at cpc
  go_wp2_with (first | refine ldC rfl _ rfl _ rfl _ (0, 0) K0.out hl0 ?_ | (go_at_call 23; refine hold_ ?_))
  intro _
  refine (HS.out _).mono ?_
  rintro q w8 ⟨rfl, hbw⟩
  have hk0' := (hbw.block w.heap.size (by omega)).trans K0.out
  have K0' := Lib.hid hk0'
  have K0c := Lib.hid (setRow_heap w8 w.heap.size _ (cv d1) _ _ hk0')
  have K1c := Lib.hid ((setRow_other w8 w.heap.size (w.heap.size + 1) (cv d1) (by omega)).trans ((hbw.block (w.heap.size + 1) (by omega)).trans K1.out))
  have KXc := Lib.hid ((setRow_other w8 w.heap.size gx (cv d1) (by omega)).trans ((hbw.block gx (by omega)).trans KX.out))
  have HBc := Lib.hid (belowS hbw HB.out)
  have hz8 : gx + 1 ≤ w8.heap.size := Nat.le_trans hz7 hbw.size
  have hss : (w8.setRow w.heap.size (cv d1)).heap.size = w8.heap.size := by simp [World.setRow]
  have hzs : w.heap.size < (w8.setRow w.heap.size (cv d1)).heap.size := by omega
  have hzt : gx < (w8.setRow w.heap.size (cv d1)).heap.size := by omega
  clear hbw x0 x1 x2 x3 x4 hzx hz0 cpc K1 KX HB HS hk0' K0 hss
  have x4 := cellOf KXc.out 4
  simp at x4
  have hf0 : World.frozen? (w8.setRow w.heap.size (cv d1)) ⟨w.heap.size, 32, none⟩ = false := frozen_of_row _ _ _ _ _ K0c.out
  have hcl := cellC K0c.out hl1 32 (by omega)
  have hst := stRow K0c.out 32 (((pc : Int) + m) % 4294967296)
  have hl2 : (d1.set 32 (((pc : Int) + m) % 4294967296)).length = 33 := by rw [List.length_set]; exact hl1
  have K0q := Lib.hid (setRow_heap _ w.heap.size _ (cv (d1.set 32 (((pc : Int) + m) % 4294967296))) _ _ K0c.out)
  have K1q := Lib.hid ((setRow_other _ w.heap.size (w.heap.size + 1) (cv (d1.set 32 (((pc : Int) + m) % 4294967296))) (by omega)).trans K1c.out)
  go_wp2_with (first | refine stC rfl _ _ rfl _ _ rfl rfl (c.set 0 0) K0'.out hl1 hl0 ?_ | refine ldC rfl _ rfl _ rfl _ (0, 0) K0q.out hl2 ?_ | refine stC rfl _ _ rfl _ _ rfl rfl zs K1q.out hl2 rfl ?_)
  refine retC2 rfl rfl (setRow_heap _ _ _ _ _ _ K1q.out) hl2 rfl rfl ⟨rfl, postB HM.out (below_setRow (below_setRow (below_setRow HBc.out (by omega) _) (by omega) _) (by omega) _)⟩
set_option maxHeartbeats 4000000 in
theorem Step_jalr (c : List Int) (hc : Wc c) (p bl n : Nat) (f : Nat → Nat) (w : World) (hM : Mm.MemAt w p bl n f) (hn : n < 80000000) (hmis : reg (c.set 0 0) 32 % 4 = 0) (op rd a b m e : Int) (hdec : decT (Mm.ld f (reg (c.set 0 0) 32).toNat 4) = (op, rd, a, b, m, e)) (he : e = 0) (r x y : Nat) (hrd : rd = r) (hra : a = x) (hrb : b = y) (hr1 : r < 32) (hx : x < 32) (hy : y < 32) (d : List Int) (hd : doesv (c.set 0 0) op rd a b m = (d, false)) (ho : op = 3) :
    Calls Try.prog 15 #[.agg (cv c), .pointer (some ⟨p, 0, none⟩)] w fun e w' => e = .returned (.tuple #[.agg (cv ((setl (c.set 0 0) r ((reg (c.set 0 0) 32 + 4) % 4294967296)).set 32 ((reg (c.set 0 0) x + m) % 4294967296 - (reg (c.set 0 0) x + m) % 4294967296 % 2))), .int .i64 (0)]) ∧ Post w w' p bl n (f) := by
  have hl := hc.len
  have hc0 : Wc (c.set 0 0) := hc.set 0 0 (by omega)
  have hl0 := hc0.len
  have hf := hM.map.2.1
  have HM := Lib.hid hM
  have hlp := hM.lt
  have hlb := hM.map.lt
  clear hM
  obtain ⟨pc, hpc⟩ : ∃ pc : Nat, reg (c.set 0 0) 32 = (pc : Int) := ⟨(reg (c.set 0 0) 32).toNat, by have := hc0.rng 32; omega⟩
  have hpc2 : pc < 4294967296 := by have := hc0.rng 32; omega
  have hal : (pc : Int) % 4 = 0 := by rw [← hpc]; exact hmis
  have htm : Int.tmod (pc : Int) 4 = 0 := by have : Int.tmod (pc : Int) 4 = ((pc % 4 : Nat) : Int) := rfl
                                             omega
  have hpv : (reg (c.set 0 0) 32).toNat = pc := by omega
  have hld := Mm.ld_lt f pc 4 hf
  obtain ⟨v, hv⟩ : ∃ v, v = Mm.ld f pc 4 := ⟨_, rfl⟩
  rw [hpv] at hdec
  rw [← hv] at hld hdec
  have hv2 : v < 4294967296 := by simpa using hld
  have HV := Lib.hid hv
  have HD := Lib.hid (Decode_c v hv2 op rd a b m e hdec)
  clear hv hld hdec hpv hmis hf
  have HM2 := Lib.hid ((HM.out.alloc (.cells (cv (c.set 0 0)) 25)).alloc (.cells (cv zs) 25))
  subst he
  subst hrd
  subst hra
  subst hrb
  have hx' : (x : Int) < 32 := by omega
  have hy' : (y : Int) < 32 := by omega
  have hds := Does_calls (c.set 0 0) hc0 op r x y m
  have hld := (hc0.does op r x y m).len
  rw [hd] at hds hld
  simp only at hds hld
  have HDS := Lib.hid hds
  have HFM := Lib.hid (Form_c op)
  clear hds hd
  subst ho
  have HS := Lib.hid (set_calls (c.set 0 0) hl0 r hr1 ((reg (c.set 0 0) 32 + 4) % 4294967296))
  have hl1 := (setl_len (c.set 0 0) r ((reg (c.set 0 0) 32 + 4) % 4294967296)).trans hl0
  unfold setl at hl1 ⊢
  generalize (if r = 0 then c.set 0 0 else (c.set 0 0).set r ((reg (c.set 0 0) 32 + 4) % 4294967296)) = d1 at *
  rw [hpc] at HS
  obtain ⟨tt, htt⟩ : ∃ tt : Nat, (reg (c.set 0 0) x + m) % 4294967296 = (tt : Int) := ⟨((reg (c.set 0 0) x + m) % 4294967296).toNat, by have := mod_rng (reg (c.set 0 0) x + m); omega⟩
  have htt2 : tt < 4294967296 := by have := mod_rng (reg (c.set 0 0) x + m); omega
  have htw : IntKind.u32.wrap (reg (c.set 0 0) x + IntKind.u32.wrap m) = (tt : Int) := by rw [← htt, IntKind.wrap_u32, IntKind.wrap_u32, Int.add_emod_emod]
  rw [htt]
  obtain ⟨uu, huu⟩ : ∃ uu : Nat, uu = tt - tt % 2 := ⟨_, rfl⟩
  rw [show (tt : Int) - (tt : Int) % 2 = (uu : Int) by omega]
  have hev : Go.bits .andNot .u32 (tt : Int) 1 = (uu : Int) := by
    have := u32_andNot_nat tt 1 htt2 (by decide)
    rw [show ((1 : Nat) : Int) = 1 from rfl, show 4294967295 - 1 = 4294967294 from rfl, even_of tt htt2, ← huu] at this
    exact this
  clear htt huu
  go_enter Try.func15, Try.ntmps15
  go_wp2_with (first | refine alC rfl rfl ?_ | (go_at_call 35; refine hold_ ?_))
  intro _
  refine (Mm.Load_at HM2.out pc 4 v _ _ rfl rfl HV.out hpc2 (by omega)).mono ?_
  rintro x w2 ⟨rfl, hw2⟩
  go_wp2_with (go_at_call 36; refine hold_ ?_)
  intro _
  refine (HD.out _).mono ?_
  rintro x w4 ⟨rfl, hbw⟩
  rw [← hw2] at hbw
  obtain ⟨k0, k1, hz, hB⟩ := keep2 hbw
  clear hbw HD HV HM2 hw2
  have HB := Lib.hid hB
  have K0 := Lib.hid k0
  have K1 := Lib.hid k1
  clear hB k0 k1
  have K0x := Lib.hid ((Below.heap_alloc w4 (.cells #[.int .i64 3, .int .i64 r, .int .i64 x, .int .i64 y, .int .i64 m] 27) w.heap.size (by omega)).trans K0.out)
  have K1x := Lib.hid ((Below.heap_alloc w4 (.cells #[.int .i64 3, .int .i64 r, .int .i64 x, .int .i64 y, .int .i64 m] 27) (w.heap.size + 1) (by omega)).trans K1.out)
  have HBx := Lib.hid (HB.out.alloc (by omega) (.cells #[.int .i64 3, .int .i64 r, .int .i64 x, .int .i64 y, .int .i64 m] 27))
  go_wp2_with (first | refine ldC rfl _ rfl _ rfl _ (0, 0) K0x.out hl0 ?_ | (go_at_call 9; refine hold_ ?_))
  intro _
  refine (HDS.out _).mono ?_
  rintro x w5 ⟨rfl, hbw⟩
  have KX := Lib.hid ((hbw.block w4.heap.size (by simp)).trans (World.alloc_heap_new w4 (.cells #[.int .i64 3, .int .i64 r, .int .i64 x, .int .i64 y, .int .i64 m] 27)))
  have K0y := Lib.hid ((hbw.block w.heap.size (by simp; omega)).trans K0x.out)
  have K1y := Lib.hid ((hbw.block (w.heap.size + 1) (by simp; omega)).trans K1x.out)
  have HBy := Lib.hid (belowS hbw HBx.out)
  have hz5 : w4.heap.size + 1 ≤ w5.heap.size := by have := hbw.size; simpa using this
  obtain ⟨gx, hgx⟩ : ∃ gx, gx = w4.heap.size := ⟨_, rfl⟩
  rw [← hgx] at KX hz hz5 ⊢
  clear hbw K0 K1 HB K0x K1x HBx HDS hgx
  have x0 := cellOf KX.out 0
  simp at x0
  have hzx : gx < w5.heap.size := by omega
  have hzy : gx < w5.heap.size + 1 := by omega
  go_wp2_with (first | refine alC rfl rfl ?_ | refine stN rfl _ _ rfl _ rfl rfl zs hld rfl ?_ | (go_at_call 37; refine hold_ ?_))
  intro _
  refine (HFM.out _).mono ?_
  rintro q w7 ⟨rfl, hbw⟩
  have K0 := Lib.hid ((hbw.block w.heap.size (by simp; omega)).trans ((Below.heap_alloc w5 _ w.heap.size (by omega)).trans K0y.out))
  have K1 := Lib.hid ((hbw.block (w.heap.size + 1) (by simp; omega)).trans ((Below.heap_alloc w5 _ (w.heap.size + 1) (by omega)).trans K1y.out))
  have KX' := Lib.hid ((hbw.block gx (by simp; omega)).trans ((Below.heap_alloc w5 _ gx (by omega)).trans KX.out))
  have HB := Lib.hid (belowS hbw (HBy.out.alloc (by omega) _))
  have hz7 : gx + 1 ≤ w7.heap.size := by have := hbw.size; simp at this; omega
  clear hbw x0 hzx hzy K0y K1y KX HBy HFM
  have KX := KX'
  clear KX'
  have x0 := cellOf KX.out 0
  have x1 := cellOf KX.out 1
  have x2 := cellOf KX.out 2
  have x3 := cellOf KX.out 3
  have x4 := cellOf KX.out 4
  simp at x0 x1 x2 x3 x4
  have hzx : gx < w7.heap.size := by omega
  have hz0 : w.heap.size < w7.heap.size := by omega
  have cpc := cellC K0.out hl0 32 (by omega)
  rw [hpc] at cpc
  have cx := cellC K0.out hl0 x (by omega)
  go_wp2
  refine wp_region_held_drew (S := fun w' => w'.cell? ⟨gx, 2, none⟩ = some (.int .i64 x) ∧ w'.cell? ⟨gx, 4, none⟩ = some (.int .i64 m) ∧ w'.cell? ⟨w.heap.size, x, none⟩ = some (.int .u32 (reg (c.set 0 0) x)) ∧ Aside0 (w' = w7.drew)) (by kernel_rfl) ⟨x2, x4, cx, ⟨rfl⟩⟩ (fun hHeld => ?_)
  refine rh_take (i := 0) (k := 76) (v := ?_) rfl rfl (by kernel_rfl) (by kernel_rfl) (by kernel_rfl) (fun _ _ _ h => h) (Or.inl ⟨by rfl, ?_⟩) hHeld ?_
  rotate_left
  · (intro w hSw; obtain ⟨s0, s1, s2, s3⟩ := hSw; go_simp; try with_reducible rfl)
  simp only [Act.put, List.setIfInBounds_toArray, List.set_cons_zero, List.set_cons_succ]
  refine rh_take (i := 1) (k := 77) (v := ?_) rfl rfl (by kernel_rfl) (by kernel_rfl) (by kernel_rfl) (fun _ _ _ h => h) (Or.inl ⟨by rfl, ?_⟩) hHeld ?_
  rotate_left
  · (intro w hSw; obtain ⟨s0, s1, s2, s3⟩ := hSw; go_simp; try with_reducible rfl)
  simp only [Act.put, List.setIfInBounds_toArray, List.set_cons_zero, List.set_cons_succ]
  refine rh_take (i := 2) (k := 78) (v := ?_) rfl rfl (by kernel_rfl) (by kernel_rfl) (by kernel_rfl) (fun _ _ _ h => h) (Or.inl ⟨by rfl, ?_⟩) hHeld ?_
  rotate_left
  · (intro w hSw; obtain ⟨s0, s1, s2, s3⟩ := hSw; go_simp; try with_reducible rfl)
  simp only [Act.put, List.setIfInBounds_toArray, List.set_cons_zero, List.set_cons_succ]
  refine rh_take (i := 3) (k := 79) (v := ?_) rfl rfl (by kernel_rfl) (by kernel_rfl) (by kernel_rfl) (fun _ _ _ h => h) (Or.inl ⟨by rfl, ?_⟩) hHeld ?_
  rotate_left
  · (intro w hSw; obtain ⟨s0, s1, s2, s3⟩ := hSw; go_simp; try with_reducible rfl)
  simp only [Act.put, List.setIfInBounds_toArray, List.set_cons_zero, List.set_cons_succ]
  refine rh_take (i := 4) (k := 80) (v := ?_) rfl rfl (by kernel_rfl) (by kernel_rfl) (by kernel_rfl) (fun _ _ _ h => h) (Or.inl ⟨by rfl, ?_⟩) hHeld ?_
  rotate_left
  · (intro w hSw; obtain ⟨s0, s1, s2, s3⟩ := hSw; go_simp; try with_reducible rfl)
  simp only [Act.put, List.setIfInBounds_toArray, List.set_cons_zero, List.set_cons_succ]
  refine rh_take (i := 5) (k := 81) (v := ?_) rfl rfl (by kernel_rfl) (by kernel_rfl) (by kernel_rfl) (fun _ _ _ h => h) (Or.inl ⟨by rfl, ?_⟩) hHeld ?_
  rotate_left
  · (intro w hSw; obtain ⟨s0, s1, s2, s3⟩ := hSw; go_simp; try with_reducible rfl)
  simp only [Act.put, List.setIfInBounds_toArray, List.set_cons_zero, List.set_cons_succ]
  refine rh_take (i := 6) (k := 82) (v := ?_) rfl rfl (by kernel_rfl) (by kernel_rfl) (by kernel_rfl) (fun _ _ _ h => h) (Or.inl ⟨by rfl, ?_⟩) hHeld ?_
  rotate_left
  · (intro w hSw; obtain ⟨s0, s1, s2, s3⟩ := hSw; go_simp; try with_reducible rfl)
  simp only [Act.put, List.setIfInBounds_toArray, List.set_cons_zero, List.set_cons_succ]
  refine rh_take (i := 7) (k := 83) (v := ?_) rfl rfl (by kernel_rfl) (by kernel_rfl) (by kernel_rfl) (fun _ _ _ h => h) (Or.inl ⟨by rfl, ?_⟩) hHeld ?_
  rotate_left
  · (intro w hSw; obtain ⟨s0, s1, s2, s3⟩ := hSw; go_simp; try with_reducible rfl)
  simp only [Act.put, List.setIfInBounds_toArray, List.set_cons_zero, List.set_cons_succ]
  refine rh_take (i := 8) (k := 84) (v := ?_) rfl rfl (by kernel_rfl) (by kernel_rfl) (by kernel_rfl) (fun _ _ _ h => h) (Or.inl ⟨by rfl, ?_⟩) hHeld ?_
  rotate_left
  · (intro w hSw; obtain ⟨s0, s1, s2, s3⟩ := hSw; go_simp; try with_reducible rfl)
  simp only [Act.put, List.setIfInBounds_toArray, List.set_cons_zero, List.set_cons_succ]
  refine rh_take (i := 9) (k := 85) (v := ?_) rfl rfl (by kernel_rfl) (by kernel_rfl) (by kernel_rfl) (fun _ _ _ h => h) (Or.inl ⟨by rfl, ?_⟩) hHeld ?_
  rotate_left
  · (intro w hSw; obtain ⟨s0, s1, s2, s3⟩ := hSw; go_simp; try with_reducible rfl)
  simp only [Act.put, List.setIfInBounds_toArray, List.set_cons_zero, List.set_cons_succ]
  refine rh_take (i := 10) (k := 14) (v := ?_) rfl rfl (by kernel_rfl) (by kernel_rfl) (by kernel_rfl) (fun _ _ _ h => h) (Or.inl ⟨by rfl, ?_⟩) hHeld ?_
  rotate_left
  · (intro w hSw; obtain ⟨s0, s1, s2, s3⟩ := hSw; go_simp; try with_reducible rfl)
  simp only [Act.put, List.setIfInBounds_toArray, List.set_cons_zero, List.set_cons_succ]
  refine wpAnyH_done (by kernel_rfl) ?_ _
  clear hHeld
  have K0d := Lib.hid (show w7.drew.heap[w.heap.size]? = _ from K0.out)
  have K1d := Lib.hid (show w7.drew.heap[w.heap.size + 1]? = _ from K1.out)
  have KXd := Lib.hid (show w7.drew.heap[gx]? = _ from KX.out)
  have HBd := Lib.hid HB.out.drew
  have hzd : gx + 1 ≤ w7.drew.heap.size := hz7
  clear x0 x1 x2 x3 x4 cx cpc K0 K1 KX HB hz7 hzx hz0
  generalize w7.drew = w7 at *
  have K0 := K0d
  have K1 := K1d
  have KX := KXd
  have HB := HBd
  have hz7 := hzd
  clear K0d K1d KXd HBd hzd
  have x0 := cellOf KX.out 0
  have x1 := cellOf KX.out 1
  have x2 := cellOf KX.out 2
  have x3 := cellOf KX.out 3
  have x4 := cellOf KX.out 4
  simp at x0 x1 x2 x3 x4
  have cpc := cellC K0.out hl0 32 (by omega)
  rw [hpc] at cpc
  have hzx : gx < w7.heap.size := by omega
  have hz0 : w.heap.size < w7.heap.size := by omega
  go_wp2_with (first | refine ldC rfl _ rfl _ rfl _ (0, 0) K0.out hl0 ?_ | (go_at_call 23; refine hold_ ?_))
  intro _
  refine (HS.out _).mono ?_
  rintro q w8 ⟨rfl, hbw⟩
  have hk0' := (hbw.block w.heap.size (by omega)).trans K0.out
  have K0' := Lib.hid hk0'
  have K0c := Lib.hid (setRow_heap w8 w.heap.size _ (cv d1) _ _ hk0')
  have K1c := Lib.hid ((setRow_other w8 w.heap.size (w.heap.size + 1) (cv d1) (by omega)).trans ((hbw.block (w.heap.size + 1) (by omega)).trans K1.out))
  have KXc := Lib.hid ((setRow_other w8 w.heap.size gx (cv d1) (by omega)).trans ((hbw.block gx (by omega)).trans KX.out))
  have HBc := Lib.hid (belowS hbw HB.out)
  have hz8 : gx + 1 ≤ w8.heap.size := Nat.le_trans hz7 hbw.size
  have hss : (w8.setRow w.heap.size (cv d1)).heap.size = w8.heap.size := by simp [World.setRow]
  have hzs : w.heap.size < (w8.setRow w.heap.size (cv d1)).heap.size := by omega
  have hzt : gx < (w8.setRow w.heap.size (cv d1)).heap.size := by omega
  clear hbw x0 x1 x2 x3 x4 hzx hz0 cpc K1 KX HB HS hk0' K0 hss
  have x4 := cellOf KXc.out 4
  simp at x4
  have hf0 : World.frozen? (w8.setRow w.heap.size (cv d1)) ⟨w.heap.size, 32, none⟩ = false := frozen_of_row _ _ _ _ _ K0c.out
  have hcl := cellC K0c.out hl1 32 (by omega)
  have hst := stRow K0c.out 32 (uu : Int)
  have hl2 : (d1.set 32 (uu : Int)).length = 33 := by rw [List.length_set]; exact hl1
  have K0q := Lib.hid (setRow_heap _ w.heap.size _ (cv (d1.set 32 (uu : Int))) _ _ K0c.out)
  have K1q := Lib.hid ((setRow_other _ w.heap.size (w.heap.size + 1) (cv (d1.set 32 (uu : Int))) (by omega)).trans K1c.out)
  go_wp2_with (first | refine stC rfl _ _ rfl _ _ rfl rfl (c.set 0 0) K0'.out hl1 hl0 ?_ | refine ldC rfl _ rfl _ rfl _ (0, 0) K0q.out hl2 ?_ | refine stC rfl _ _ rfl _ _ rfl rfl zs K1q.out hl2 rfl ?_)
  refine retC2 rfl rfl (setRow_heap _ _ _ _ _ _ K1q.out) hl2 rfl rfl ⟨rfl, postB HM.out (below_setRow (below_setRow (below_setRow HBc.out (by omega) _) (by omega) _) (by omega) _)⟩
set_option maxHeartbeats 4000000 in
theorem Step_brtrue (c : List Int) (hc : Wc c) (p bl n : Nat) (f : Nat → Nat) (w : World) (hM : Mm.MemAt w p bl n f) (hn : n < 80000000) (hmis : reg (c.set 0 0) 32 % 4 = 0) (op rd a b m e : Int) (hdec : decT (Mm.ld f (reg (c.set 0 0) 32).toNat 4) = (op, rd, a, b, m, e)) (he : e = 0) (r x y : Nat) (hrd : rd = r) (hra : a = x) (hrb : b = y) (hr1 : r < 32) (hx : x < 32) (hy : y < 32) (d : List Int) (hd : doesv (c.set 0 0) op rd a b m = (d, false)) (hB : Q.frm op = 66) (h2 : op ≠ 2) (h3 : op ≠ 3) (htk : takenv op (reg (c.set 0 0) x) (reg (c.set 0 0) y) = true) :
    Calls Try.prog 15 #[.agg (cv c), .pointer (some ⟨p, 0, none⟩)] w fun e w' => e = .returned (.tuple #[.agg (cv ((c.set 0 0).set 32 ((reg (c.set 0 0) 32 + m) % 4294967296))), .int .i64 (0)]) ∧ Post w w' p bl n (f) := by
  have hl := hc.len
  have hc0 : Wc (c.set 0 0) := hc.set 0 0 (by omega)
  have hl0 := hc0.len
  have hf := hM.map.2.1
  have HM := Lib.hid hM
  have hlp := hM.lt
  have hlb := hM.map.lt
  clear hM
  obtain ⟨pc, hpc⟩ : ∃ pc : Nat, reg (c.set 0 0) 32 = (pc : Int) := ⟨(reg (c.set 0 0) 32).toNat, by have := hc0.rng 32; omega⟩
  have hpc2 : pc < 4294967296 := by have := hc0.rng 32; omega
  have hal : (pc : Int) % 4 = 0 := by rw [← hpc]; exact hmis
  have htm : Int.tmod (pc : Int) 4 = 0 := by have : Int.tmod (pc : Int) 4 = ((pc % 4 : Nat) : Int) := rfl
                                             omega
  have hpv : (reg (c.set 0 0) 32).toNat = pc := by omega
  have hld := Mm.ld_lt f pc 4 hf
  obtain ⟨v, hv⟩ : ∃ v, v = Mm.ld f pc 4 := ⟨_, rfl⟩
  rw [hpv] at hdec
  rw [← hv] at hld hdec
  have hv2 : v < 4294967296 := by simpa using hld
  have HV := Lib.hid hv
  have HD := Lib.hid (Decode_c v hv2 op rd a b m e hdec)
  clear hv hld hdec hpv hmis hf
  have HM2 := Lib.hid ((HM.out.alloc (.cells (cv (c.set 0 0)) 25)).alloc (.cells (cv zs) 25))
  subst he
  subst hrd
  subst hra
  subst hrb
  have hx' : (x : Int) < 32 := by omega
  have hy' : (y : Int) < 32 := by omega
  have hds := Does_calls (c.set 0 0) hc0 op r x y m
  have hld := (hc0.does op r x y m).len
  rw [hd] at hds hld
  simp only at hds hld
  have HDS := Lib.hid hds
  have HFM := Lib.hid (Form_c op)
  clear hds hd
  have b2 : (op == 2) = false := beq_eq_false_iff_ne.mpr h2
  have b3 : (op == 3) = false := beq_eq_false_iff_ne.mpr h3
  have htc := taken_c op (reg (c.set 0 0) x) (reg (c.set 0 0) y)
  rw [htk] at htc
  have HT := Lib.hid htc
  rw [hB] at HFM
  clear htc htk hB h2 h3
  rw [hpc]
  go_enter Try.func15, Try.ntmps15
  go_wp2_with (first | refine alC rfl rfl ?_ | (go_at_call 35; refine hold_ ?_))
  intro _
  refine (Mm.Load_at HM2.out pc 4 v _ _ rfl rfl HV.out hpc2 (by omega)).mono ?_
  rintro x w2 ⟨rfl, hw2⟩
  go_wp2_with (go_at_call 36; refine hold_ ?_)
  intro _
  refine (HD.out _).mono ?_
  rintro x w4 ⟨rfl, hbw⟩
  rw [← hw2] at hbw
  obtain ⟨k0, k1, hz, hB⟩ := keep2 hbw
  clear hbw HD HV HM2 hw2
  have HB := Lib.hid hB
  have K0 := Lib.hid k0
  have K1 := Lib.hid k1
  clear hB k0 k1
  have K0x := Lib.hid ((Below.heap_alloc w4 (.cells #[.int .i64 op, .int .i64 r, .int .i64 x, .int .i64 y, .int .i64 m] 27) w.heap.size (by omega)).trans K0.out)
  have K1x := Lib.hid ((Below.heap_alloc w4 (.cells #[.int .i64 op, .int .i64 r, .int .i64 x, .int .i64 y, .int .i64 m] 27) (w.heap.size + 1) (by omega)).trans K1.out)
  have HBx := Lib.hid (HB.out.alloc (by omega) (.cells #[.int .i64 op, .int .i64 r, .int .i64 x, .int .i64 y, .int .i64 m] 27))
  go_wp2_with (first | refine ldC rfl _ rfl _ rfl _ (0, 0) K0x.out hl0 ?_ | (go_at_call 9; refine hold_ ?_))
  intro _
  refine (HDS.out _).mono ?_
  rintro x w5 ⟨rfl, hbw⟩
  have KX := Lib.hid ((hbw.block w4.heap.size (by simp)).trans (World.alloc_heap_new w4 (.cells #[.int .i64 op, .int .i64 r, .int .i64 x, .int .i64 y, .int .i64 m] 27)))
  have K0y := Lib.hid ((hbw.block w.heap.size (by simp; omega)).trans K0x.out)
  have K1y := Lib.hid ((hbw.block (w.heap.size + 1) (by simp; omega)).trans K1x.out)
  have HBy := Lib.hid (belowS hbw HBx.out)
  have hz5 : w4.heap.size + 1 ≤ w5.heap.size := by have := hbw.size; simpa using this
  obtain ⟨gx, hgx⟩ : ∃ gx, gx = w4.heap.size := ⟨_, rfl⟩
  rw [← hgx] at KX hz hz5 ⊢
  clear hbw K0 K1 HB K0x K1x HBx HDS hgx
  have x0 := cellOf KX.out 0
  simp at x0
  have hzx : gx < w5.heap.size := by omega
  have hzy : gx < w5.heap.size + 1 := by omega
  go_wp2_with (first | refine alC rfl rfl ?_ | refine stN rfl _ _ rfl _ rfl rfl zs hld rfl ?_ | (go_at_call 37; refine hold_ ?_))
  intro _
  refine (HFM.out _).mono ?_
  rintro q w7 ⟨rfl, hbw⟩
  have K0 := Lib.hid ((hbw.block w.heap.size (by simp; omega)).trans ((Below.heap_alloc w5 _ w.heap.size (by omega)).trans K0y.out))
  have K1 := Lib.hid ((hbw.block (w.heap.size + 1) (by simp; omega)).trans ((Below.heap_alloc w5 _ (w.heap.size + 1) (by omega)).trans K1y.out))
  have KX' := Lib.hid ((hbw.block gx (by simp; omega)).trans ((Below.heap_alloc w5 _ gx (by omega)).trans KX.out))
  have HB := Lib.hid (belowS hbw (HBy.out.alloc (by omega) _))
  have hz7 : gx + 1 ≤ w7.heap.size := by have := hbw.size; simp at this; omega
  clear hbw x0 hzx hzy K0y K1y KX HBy HFM
  have KX := KX'
  clear KX'
  have x0 := cellOf KX.out 0
  have x1 := cellOf KX.out 1
  have x2 := cellOf KX.out 2
  have x3 := cellOf KX.out 3
  have x4 := cellOf KX.out 4
  simp at x0 x1 x2 x3 x4
  have hzx : gx < w7.heap.size := by omega
  have hz0 : w.heap.size < w7.heap.size := by omega
  have cpc := cellC K0.out hl0 32 (by omega)
  rw [hpc] at cpc
  have cx := cellC K0.out hl0 x (by omega)
  have cy := cellC K0.out hl0 y (by omega)
  go_wp2
  refine wp_region_held_drew (S := fun w' => w'.cell? ⟨gx, 0, none⟩ = some (.int .i64 op) ∧ w'.cell? ⟨gx, 2, none⟩ = some (.int .i64 x) ∧ w'.cell? ⟨gx, 3, none⟩ = some (.int .i64 y) ∧ w'.cell? ⟨w.heap.size, x, none⟩ = some (.int .u32 (reg (c.set 0 0) x)) ∧ w'.cell? ⟨w.heap.size, y, none⟩ = some (.int .u32 (reg (c.set 0 0) y)) ∧ Aside0 (Below w7.heap.size w7 w')) (by kernel_rfl) ⟨x0, x2, x3, cx, cy, ⟨(Below.refl _ w7).drew⟩⟩ (fun hHeld => ?_)
  clear x0 x1 x2 x3 x4 cx cy cpc
  refine rh_take (i := 0) (k := 96) (v := ?_) rfl rfl (by kernel_rfl) (by kernel_rfl) (by kernel_rfl) (fun _ _ _ h => h) (Or.inl ⟨by rfl, ?_⟩) hHeld ?_
  rotate_left
  · (intro w hSw; obtain ⟨s0, s1, s2, s3, s4, s5⟩ := hSw; go_simp; try with_reducible rfl)
  simp only [Act.put, List.setIfInBounds_toArray, List.set_cons_zero, List.set_cons_succ]
  refine rh_take (i := 1) (k := 97) (v := ?_) rfl rfl (by kernel_rfl) (by kernel_rfl) (by kernel_rfl) (fun _ _ _ h => h) (Or.inl ⟨by rfl, ?_⟩) hHeld ?_
  rotate_left
  · (intro w hSw; obtain ⟨s0, s1, s2, s3, s4, s5⟩ := hSw; go_simp; try with_reducible rfl)
  simp only [Act.put, List.setIfInBounds_toArray, List.set_cons_zero, List.set_cons_succ]
  refine rh_take (i := 2) (k := 98) (v := ?_) rfl rfl (by kernel_rfl) (by kernel_rfl) (by kernel_rfl) (fun _ _ _ h => h) (Or.inl ⟨by rfl, ?_⟩) hHeld ?_
  rotate_left
  · (intro w hSw; obtain ⟨s0, s1, s2, s3, s4, s5⟩ := hSw; go_simp; try with_reducible rfl)
  simp only [Act.put, List.setIfInBounds_toArray, List.set_cons_zero, List.set_cons_succ]
  refine rh_take (i := 3) (k := 99) (v := ?_) rfl rfl (by kernel_rfl) (by kernel_rfl) (by kernel_rfl) (fun _ _ _ h => h) (Or.inl ⟨by rfl, ?_⟩) hHeld ?_
  rotate_left
  · (intro w hSw; obtain ⟨s0, s1, s2, s3, s4, s5⟩ := hSw; go_simp; try with_reducible rfl)
  simp only [Act.put, List.setIfInBounds_toArray, List.set_cons_zero, List.set_cons_succ]
  refine rh_take (i := 4) (k := 100) (v := ?_) rfl rfl (by kernel_rfl) (by kernel_rfl) (by kernel_rfl) (fun _ _ _ h => h) (Or.inl ⟨by rfl, ?_⟩) hHeld ?_
  rotate_left
  · (intro w hSw; obtain ⟨s0, s1, s2, s3, s4, s5⟩ := hSw; go_simp; try with_reducible rfl)
  simp only [Act.put, List.setIfInBounds_toArray, List.set_cons_zero, List.set_cons_succ]
  refine rh_take (i := 5) (k := 101) (v := ?_) rfl rfl (by kernel_rfl) (by kernel_rfl) (by kernel_rfl) (fun _ _ _ h => h) (Or.inl ⟨by rfl, ?_⟩) hHeld ?_
  rotate_left
  · (intro w hSw; obtain ⟨s0, s1, s2, s3, s4, s5⟩ := hSw; go_simp; try with_reducible rfl)
  simp only [Act.put, List.setIfInBounds_toArray, List.set_cons_zero, List.set_cons_succ]
  refine rh_take (i := 6) (k := 102) (v := ?_) rfl rfl (by kernel_rfl) (by kernel_rfl) (by kernel_rfl) (fun _ _ _ h => h) (Or.inl ⟨by rfl, ?_⟩) hHeld ?_
  rotate_left
  · (intro w hSw; obtain ⟨s0, s1, s2, s3, s4, s5⟩ := hSw; go_simp; try with_reducible rfl)
  simp only [Act.put, List.setIfInBounds_toArray, List.set_cons_zero, List.set_cons_succ]
  refine rh_take (i := 7) (k := 103) (v := ?_) rfl rfl (by kernel_rfl) (by kernel_rfl) (by kernel_rfl) (fun _ _ _ h => h) (Or.inl ⟨by rfl, ?_⟩) hHeld ?_
  rotate_left
  · (intro w hSw; obtain ⟨s0, s1, s2, s3, s4, s5⟩ := hSw; go_simp; try with_reducible rfl)
  simp only [Act.put, List.setIfInBounds_toArray, List.set_cons_zero, List.set_cons_succ]
  refine rh_take (i := 8) (k := 104) (v := ?_) rfl rfl (by kernel_rfl) (by kernel_rfl) (by kernel_rfl) (fun _ _ _ h => h) (Or.inl ⟨by rfl, ?_⟩) hHeld ?_
  rotate_left
  · (intro w hSw; obtain ⟨s0, s1, s2, s3, s4, s5⟩ := hSw; go_simp; try with_reducible rfl)
  simp only [Act.put, List.setIfInBounds_toArray, List.set_cons_zero, List.set_cons_succ]
  refine rh_take (i := 9) (k := 105) (v := ?_) rfl rfl (by kernel_rfl) (by kernel_rfl) (by kernel_rfl) (fun _ _ _ h => h) (Or.inl ⟨by rfl, ?_⟩) hHeld ?_
  rotate_left
  · (intro w hSw; obtain ⟨s0, s1, s2, s3, s4, s5⟩ := hSw; go_simp; try with_reducible rfl)
  simp only [Act.put, List.setIfInBounds_toArray, List.set_cons_zero, List.set_cons_succ]
  refine rh_take (i := 10) (k := 106) (v := ?_) rfl rfl (by kernel_rfl) (by kernel_rfl) (by kernel_rfl) (fun _ _ _ h => h) (Or.inl ⟨by rfl, ?_⟩) hHeld ?_
  rotate_left
  · (intro w hSw; obtain ⟨s0, s1, s2, s3, s4, s5⟩ := hSw; go_simp; try with_reducible rfl)
  simp only [Act.put, List.setIfInBounds_toArray, List.set_cons_zero, List.set_cons_succ]
  refine rh_take (i := 11) (k := 107) (v := ?_) rfl rfl (by kernel_rfl) (by kernel_rfl) (by kernel_rfl) (fun _ _ _ h => h) (Or.inl ⟨by rfl, ?_⟩) hHeld ?_
  rotate_left
  · (intro w hSw; obtain ⟨s0, s1, s2, s3, s4, s5⟩ := hSw; go_simp; try with_reducible rfl)
  simp only [Act.put, List.setIfInBounds_toArray, List.set_cons_zero, List.set_cons_succ]
  refine rh_take (i := 12) (k := 108) (v := ?_) rfl rfl (by kernel_rfl) (by kernel_rfl) (by kernel_rfl) (fun _ _ _ h => h) (Or.inl ⟨by rfl, ?_⟩) hHeld ?_
  rotate_left
  · (intro w hSw; obtain ⟨s0, s1, s2, s3, s4, s5⟩ := hSw; go_simp; try with_reducible rfl)
  simp only [Act.put, List.setIfInBounds_toArray, List.set_cons_zero, List.set_cons_succ]
  refine rh_take (i := 13) (k := 109) (v := ?_) rfl rfl (by kernel_rfl) (by kernel_rfl) (by kernel_rfl) (fun _ _ _ h => h) (Or.inl ⟨by rfl, ?_⟩) hHeld ?_
  rotate_left
  · (intro w hSw; obtain ⟨s0, s1, s2, s3, s4, s5⟩ := hSw; go_simp; try with_reducible rfl)
  simp only [Act.put, List.setIfInBounds_toArray, List.set_cons_zero, List.set_cons_succ]
  refine rh_take (i := 14) (k := 110) (v := ?_) rfl rfl (by kernel_rfl) (by kernel_rfl) (by kernel_rfl) (fun _ _ _ h => h) (Or.inl ⟨by rfl, ?_⟩) hHeld ?_
  rotate_left
  · (intro w hSw; obtain ⟨s0, s1, s2, s3, s4, s5⟩ := hSw; go_simp; try with_reducible rfl)
  simp only [Act.put, List.setIfInBounds_toArray, List.set_cons_zero, List.set_cons_succ]
  refine wpAnyH_ready (rs := [15]) (by kernel_rfl) (by simp) ?_
  refine AllReadyH.cons (i := 15) rfl (fun K hK => ?_) AllReadyH.nil
  go_simp
  refine (HT.out _).mono ?_
  rintro q w8 ⟨rfl, hd8⟩
  go_wp2_with fail
  refine hK.out _ _ ⟨keepc hd8 hHeld.1, keepc hd8 hHeld.2.1, keepc hd8 hHeld.2.2.1, keepc hd8 hHeld.2.2.2.1, keepc hd8 hHeld.2.2.2.2.1, ⟨belowS hd8 hHeld.2.2.2.2.2.out⟩⟩ (fun hHeld => ?_)
  clear hK K
  try simp only [Act.put, List.setIfInBounds_toArray, List.set_cons_zero, List.set_cons_succ]
  refine rh_take (i := 16) (k := 112) (v := ?_) rfl rfl (by kernel_rfl) (by kernel_rfl) (by kernel_rfl) (fun _ _ _ h => h) (Or.inl ⟨by rfl, ?_⟩) hHeld ?_
  rotate_left
  · (intro w hSw; obtain ⟨s0, s1, s2, s3, s4, s5⟩ := hSw; go_simp; try with_reducible rfl)
  simp only [Act.put, List.setIfInBounds_toArray, List.set_cons_zero, List.set_cons_succ]
  refine rh_take (i := 17) (k := 95) (v := ?_) rfl rfl (by kernel_rfl) (by kernel_rfl) (by kernel_rfl) (fun _ _ _ h => h) (Or.inl ⟨by rfl, ?_⟩) hHeld ?_
  rotate_left
  · (intro w hSw; obtain ⟨s0, s1, s2, s3, s4, s5⟩ := hSw; go_simp; try with_reducible rfl)
  simp only [Act.put, List.setIfInBounds_toArray, List.set_cons_zero, List.set_cons_succ]
  refine wpAnyH_done (by kernel_rfl) ?_ _
  have hb8 := hHeld.2.2.2.2.2.out
  clear hHeld
  have K0' := Lib.hid ((hb8.block w.heap.size (by omega)).trans K0.out)
  have K1' := Lib.hid ((hb8.block (w.heap.size + 1) (by omega)).trans K1.out)
  have KX' := Lib.hid ((hb8.block gx (by omega)).trans KX.out)
  have HB' := Lib.hid (belowS hb8 HB.out)
  have hz8 : gx + 1 ≤ w8.heap.size := Nat.le_trans hz7 hb8.size
  clear K0 K1 KX HB hz7 hzx hz0 hb8 HT
  have K0 := K0'
  have K1 := K1'
  have HB := HB'
  have x4 := cellOf KX'.out 4
  simp at x4
  have cpc := cellC K0.out hl0 32 (by omega)
  rw [hpc] at cpc
  have hzx : gx < w8.heap.size := by omega
  have hz0 : w.heap.size < w8.heap.size := by omega
  clear K0' K1' KX' HB'
  have hst := stRow K0.out 32 (((pc : Int) + m) % 4294967296)
  have hf0 : World.frozen? w8 ⟨w.heap.size, 32, none⟩ = false := frozen_of_row _ _ _ _ _ K0.out
  have hl2 : ((c.set 0 0).set 32 (((pc : Int) + m) % 4294967296)).length = 33 := by rw [List.length_set]; exact hl0
  have K0q := Lib.hid (setRow_heap _ w.heap.size _ (cv ((c.set 0 0).set 32 (((pc : Int) + m) % 4294967296))) _ _ K0.out)
  have K1q := Lib.hid ((setRow_other w8 w.heap.size (w.heap.size + 1) (cv ((c.set 0 0).set 32 (((pc : Int) + m) % 4294967296))) (by omega)).trans K1.out)
  go_wp2_with (first | refine ldC rfl _ rfl _ rfl _ (0, 0) K0q.out hl2 ?_ | refine stC rfl _ _ rfl _ _ rfl rfl zs K1q.out hl2 rfl ?_)
  refine retC2 rfl rfl (setRow_heap _ _ _ _ _ _ K1q.out) hl2 rfl rfl ⟨rfl, postB HM.out (below_setRow (below_setRow HB.out (by omega) _) (by omega) _)⟩
set_option maxHeartbeats 4000000 in
theorem Step_brfalse (c : List Int) (hc : Wc c) (p bl n : Nat) (f : Nat → Nat) (w : World) (hM : Mm.MemAt w p bl n f) (hn : n < 80000000) (hmis : reg (c.set 0 0) 32 % 4 = 0) (op rd a b m e : Int) (hdec : decT (Mm.ld f (reg (c.set 0 0) 32).toNat 4) = (op, rd, a, b, m, e)) (he : e = 0) (r x y : Nat) (hrd : rd = r) (hra : a = x) (hrb : b = y) (hr1 : r < 32) (hx : x < 32) (hy : y < 32) (d : List Int) (hd : doesv (c.set 0 0) op rd a b m = (d, false)) (hB : Q.frm op = 66) (h2 : op ≠ 2) (h3 : op ≠ 3) (htk : takenv op (reg (c.set 0 0) x) (reg (c.set 0 0) y) = false) :
    Calls Try.prog 15 #[.agg (cv c), .pointer (some ⟨p, 0, none⟩)] w fun e w' => e = .returned (.tuple #[.agg (cv ((c.set 0 0).set 32 ((reg (c.set 0 0) 32 + 4) % 4294967296))), .int .i64 (0)]) ∧ Post w w' p bl n (f) := by
  have hl := hc.len
  have hc0 : Wc (c.set 0 0) := hc.set 0 0 (by omega)
  have hl0 := hc0.len
  have hf := hM.map.2.1
  have HM := Lib.hid hM
  have hlp := hM.lt
  have hlb := hM.map.lt
  clear hM
  obtain ⟨pc, hpc⟩ : ∃ pc : Nat, reg (c.set 0 0) 32 = (pc : Int) := ⟨(reg (c.set 0 0) 32).toNat, by have := hc0.rng 32; omega⟩
  have hpc2 : pc < 4294967296 := by have := hc0.rng 32; omega
  have hal : (pc : Int) % 4 = 0 := by rw [← hpc]; exact hmis
  have htm : Int.tmod (pc : Int) 4 = 0 := by have : Int.tmod (pc : Int) 4 = ((pc % 4 : Nat) : Int) := rfl
                                             omega
  have hpv : (reg (c.set 0 0) 32).toNat = pc := by omega
  have hld := Mm.ld_lt f pc 4 hf
  obtain ⟨v, hv⟩ : ∃ v, v = Mm.ld f pc 4 := ⟨_, rfl⟩
  rw [hpv] at hdec
  rw [← hv] at hld hdec
  have hv2 : v < 4294967296 := by simpa using hld
  have HV := Lib.hid hv
  have HD := Lib.hid (Decode_c v hv2 op rd a b m e hdec)
  clear hv hld hdec hpv hmis hf
  have HM2 := Lib.hid ((HM.out.alloc (.cells (cv (c.set 0 0)) 25)).alloc (.cells (cv zs) 25))
  subst he
  subst hrd
  subst hra
  subst hrb
  have hx' : (x : Int) < 32 := by omega
  have hy' : (y : Int) < 32 := by omega
  have hds := Does_calls (c.set 0 0) hc0 op r x y m
  have hld := (hc0.does op r x y m).len
  rw [hd] at hds hld
  simp only at hds hld
  have HDS := Lib.hid hds
  have HFM := Lib.hid (Form_c op)
  clear hds hd
  have b2 : (op == 2) = false := beq_eq_false_iff_ne.mpr h2
  have b3 : (op == 3) = false := beq_eq_false_iff_ne.mpr h3
  have htc := taken_c op (reg (c.set 0 0) x) (reg (c.set 0 0) y)
  rw [htk] at htc
  have HT := Lib.hid htc
  rw [hB] at HFM
  clear htc htk hB h2 h3
  rw [hpc]
  go_enter Try.func15, Try.ntmps15
  go_wp2_with (first | refine alC rfl rfl ?_ | (go_at_call 35; refine hold_ ?_))
  intro _
  refine (Mm.Load_at HM2.out pc 4 v _ _ rfl rfl HV.out hpc2 (by omega)).mono ?_
  rintro x w2 ⟨rfl, hw2⟩
  go_wp2_with (go_at_call 36; refine hold_ ?_)
  intro _
  refine (HD.out _).mono ?_
  rintro x w4 ⟨rfl, hbw⟩
  rw [← hw2] at hbw
  obtain ⟨k0, k1, hz, hB⟩ := keep2 hbw
  clear hbw HD HV HM2 hw2
  have HB := Lib.hid hB
  have K0 := Lib.hid k0
  have K1 := Lib.hid k1
  clear hB k0 k1
  have K0x := Lib.hid ((Below.heap_alloc w4 (.cells #[.int .i64 op, .int .i64 r, .int .i64 x, .int .i64 y, .int .i64 m] 27) w.heap.size (by omega)).trans K0.out)
  have K1x := Lib.hid ((Below.heap_alloc w4 (.cells #[.int .i64 op, .int .i64 r, .int .i64 x, .int .i64 y, .int .i64 m] 27) (w.heap.size + 1) (by omega)).trans K1.out)
  have HBx := Lib.hid (HB.out.alloc (by omega) (.cells #[.int .i64 op, .int .i64 r, .int .i64 x, .int .i64 y, .int .i64 m] 27))
  go_wp2_with (first | refine ldC rfl _ rfl _ rfl _ (0, 0) K0x.out hl0 ?_ | (go_at_call 9; refine hold_ ?_))
  intro _
  refine (HDS.out _).mono ?_
  rintro x w5 ⟨rfl, hbw⟩
  have KX := Lib.hid ((hbw.block w4.heap.size (by simp)).trans (World.alloc_heap_new w4 (.cells #[.int .i64 op, .int .i64 r, .int .i64 x, .int .i64 y, .int .i64 m] 27)))
  have K0y := Lib.hid ((hbw.block w.heap.size (by simp; omega)).trans K0x.out)
  have K1y := Lib.hid ((hbw.block (w.heap.size + 1) (by simp; omega)).trans K1x.out)
  have HBy := Lib.hid (belowS hbw HBx.out)
  have hz5 : w4.heap.size + 1 ≤ w5.heap.size := by have := hbw.size; simpa using this
  obtain ⟨gx, hgx⟩ : ∃ gx, gx = w4.heap.size := ⟨_, rfl⟩
  rw [← hgx] at KX hz hz5 ⊢
  clear hbw K0 K1 HB K0x K1x HBx HDS hgx
  have x0 := cellOf KX.out 0
  simp at x0
  have hzx : gx < w5.heap.size := by omega
  have hzy : gx < w5.heap.size + 1 := by omega
  go_wp2_with (first | refine alC rfl rfl ?_ | refine stN rfl _ _ rfl _ rfl rfl zs hld rfl ?_ | (go_at_call 37; refine hold_ ?_))
  intro _
  refine (HFM.out _).mono ?_
  rintro q w7 ⟨rfl, hbw⟩
  have K0 := Lib.hid ((hbw.block w.heap.size (by simp; omega)).trans ((Below.heap_alloc w5 _ w.heap.size (by omega)).trans K0y.out))
  have K1 := Lib.hid ((hbw.block (w.heap.size + 1) (by simp; omega)).trans ((Below.heap_alloc w5 _ (w.heap.size + 1) (by omega)).trans K1y.out))
  have KX' := Lib.hid ((hbw.block gx (by simp; omega)).trans ((Below.heap_alloc w5 _ gx (by omega)).trans KX.out))
  have HB := Lib.hid (belowS hbw (HBy.out.alloc (by omega) _))
  have hz7 : gx + 1 ≤ w7.heap.size := by have := hbw.size; simp at this; omega
  clear hbw x0 hzx hzy K0y K1y KX HBy HFM
  have KX := KX'
  clear KX'
  have x0 := cellOf KX.out 0
  have x1 := cellOf KX.out 1
  have x2 := cellOf KX.out 2
  have x3 := cellOf KX.out 3
  have x4 := cellOf KX.out 4
  simp at x0 x1 x2 x3 x4
  have hzx : gx < w7.heap.size := by omega
  have hz0 : w.heap.size < w7.heap.size := by omega
  have cpc := cellC K0.out hl0 32 (by omega)
  rw [hpc] at cpc
  have cx := cellC K0.out hl0 x (by omega)
  have cy := cellC K0.out hl0 y (by omega)
  go_wp2
  refine wp_region_held_drew (S := fun w' => w'.cell? ⟨gx, 0, none⟩ = some (.int .i64 op) ∧ w'.cell? ⟨gx, 2, none⟩ = some (.int .i64 x) ∧ w'.cell? ⟨gx, 3, none⟩ = some (.int .i64 y) ∧ w'.cell? ⟨w.heap.size, x, none⟩ = some (.int .u32 (reg (c.set 0 0) x)) ∧ w'.cell? ⟨w.heap.size, y, none⟩ = some (.int .u32 (reg (c.set 0 0) y)) ∧ Aside0 (Below w7.heap.size w7 w')) (by kernel_rfl) ⟨x0, x2, x3, cx, cy, ⟨(Below.refl _ w7).drew⟩⟩ (fun hHeld => ?_)
  clear x0 x1 x2 x3 x4 cx cy cpc
  refine rh_take (i := 0) (k := 96) (v := ?_) rfl rfl (by kernel_rfl) (by kernel_rfl) (by kernel_rfl) (fun _ _ _ h => h) (Or.inl ⟨by rfl, ?_⟩) hHeld ?_
  rotate_left
  · (intro w hSw; obtain ⟨s0, s1, s2, s3, s4, s5⟩ := hSw; go_simp; try with_reducible rfl)
  simp only [Act.put, List.setIfInBounds_toArray, List.set_cons_zero, List.set_cons_succ]
  refine rh_take (i := 1) (k := 97) (v := ?_) rfl rfl (by kernel_rfl) (by kernel_rfl) (by kernel_rfl) (fun _ _ _ h => h) (Or.inl ⟨by rfl, ?_⟩) hHeld ?_
  rotate_left
  · (intro w hSw; obtain ⟨s0, s1, s2, s3, s4, s5⟩ := hSw; go_simp; try with_reducible rfl)
  simp only [Act.put, List.setIfInBounds_toArray, List.set_cons_zero, List.set_cons_succ]
  refine rh_take (i := 2) (k := 98) (v := ?_) rfl rfl (by kernel_rfl) (by kernel_rfl) (by kernel_rfl) (fun _ _ _ h => h) (Or.inl ⟨by rfl, ?_⟩) hHeld ?_
  rotate_left
  · (intro w hSw; obtain ⟨s0, s1, s2, s3, s4, s5⟩ := hSw; go_simp; try with_reducible rfl)
  simp only [Act.put, List.setIfInBounds_toArray, List.set_cons_zero, List.set_cons_succ]
  refine rh_take (i := 3) (k := 99) (v := ?_) rfl rfl (by kernel_rfl) (by kernel_rfl) (by kernel_rfl) (fun _ _ _ h => h) (Or.inl ⟨by rfl, ?_⟩) hHeld ?_
  rotate_left
  · (intro w hSw; obtain ⟨s0, s1, s2, s3, s4, s5⟩ := hSw; go_simp; try with_reducible rfl)
  simp only [Act.put, List.setIfInBounds_toArray, List.set_cons_zero, List.set_cons_succ]
  refine rh_take (i := 4) (k := 100) (v := ?_) rfl rfl (by kernel_rfl) (by kernel_rfl) (by kernel_rfl) (fun _ _ _ h => h) (Or.inl ⟨by rfl, ?_⟩) hHeld ?_
  rotate_left
  · (intro w hSw; obtain ⟨s0, s1, s2, s3, s4, s5⟩ := hSw; go_simp; try with_reducible rfl)
  simp only [Act.put, List.setIfInBounds_toArray, List.set_cons_zero, List.set_cons_succ]
  refine rh_take (i := 5) (k := 101) (v := ?_) rfl rfl (by kernel_rfl) (by kernel_rfl) (by kernel_rfl) (fun _ _ _ h => h) (Or.inl ⟨by rfl, ?_⟩) hHeld ?_
  rotate_left
  · (intro w hSw; obtain ⟨s0, s1, s2, s3, s4, s5⟩ := hSw; go_simp; try with_reducible rfl)
  simp only [Act.put, List.setIfInBounds_toArray, List.set_cons_zero, List.set_cons_succ]
  refine rh_take (i := 6) (k := 102) (v := ?_) rfl rfl (by kernel_rfl) (by kernel_rfl) (by kernel_rfl) (fun _ _ _ h => h) (Or.inl ⟨by rfl, ?_⟩) hHeld ?_
  rotate_left
  · (intro w hSw; obtain ⟨s0, s1, s2, s3, s4, s5⟩ := hSw; go_simp; try with_reducible rfl)
  simp only [Act.put, List.setIfInBounds_toArray, List.set_cons_zero, List.set_cons_succ]
  refine rh_take (i := 7) (k := 103) (v := ?_) rfl rfl (by kernel_rfl) (by kernel_rfl) (by kernel_rfl) (fun _ _ _ h => h) (Or.inl ⟨by rfl, ?_⟩) hHeld ?_
  rotate_left
  · (intro w hSw; obtain ⟨s0, s1, s2, s3, s4, s5⟩ := hSw; go_simp; try with_reducible rfl)
  simp only [Act.put, List.setIfInBounds_toArray, List.set_cons_zero, List.set_cons_succ]
  refine rh_take (i := 8) (k := 104) (v := ?_) rfl rfl (by kernel_rfl) (by kernel_rfl) (by kernel_rfl) (fun _ _ _ h => h) (Or.inl ⟨by rfl, ?_⟩) hHeld ?_
  rotate_left
  · (intro w hSw; obtain ⟨s0, s1, s2, s3, s4, s5⟩ := hSw; go_simp; try with_reducible rfl)
  simp only [Act.put, List.setIfInBounds_toArray, List.set_cons_zero, List.set_cons_succ]
  refine rh_take (i := 9) (k := 105) (v := ?_) rfl rfl (by kernel_rfl) (by kernel_rfl) (by kernel_rfl) (fun _ _ _ h => h) (Or.inl ⟨by rfl, ?_⟩) hHeld ?_
  rotate_left
  · (intro w hSw; obtain ⟨s0, s1, s2, s3, s4, s5⟩ := hSw; go_simp; try with_reducible rfl)
  simp only [Act.put, List.setIfInBounds_toArray, List.set_cons_zero, List.set_cons_succ]
  refine rh_take (i := 10) (k := 106) (v := ?_) rfl rfl (by kernel_rfl) (by kernel_rfl) (by kernel_rfl) (fun _ _ _ h => h) (Or.inl ⟨by rfl, ?_⟩) hHeld ?_
  rotate_left
  · (intro w hSw; obtain ⟨s0, s1, s2, s3, s4, s5⟩ := hSw; go_simp; try with_reducible rfl)
  simp only [Act.put, List.setIfInBounds_toArray, List.set_cons_zero, List.set_cons_succ]
  refine rh_take (i := 11) (k := 107) (v := ?_) rfl rfl (by kernel_rfl) (by kernel_rfl) (by kernel_rfl) (fun _ _ _ h => h) (Or.inl ⟨by rfl, ?_⟩) hHeld ?_
  rotate_left
  · (intro w hSw; obtain ⟨s0, s1, s2, s3, s4, s5⟩ := hSw; go_simp; try with_reducible rfl)
  simp only [Act.put, List.setIfInBounds_toArray, List.set_cons_zero, List.set_cons_succ]
  refine rh_take (i := 12) (k := 108) (v := ?_) rfl rfl (by kernel_rfl) (by kernel_rfl) (by kernel_rfl) (fun _ _ _ h => h) (Or.inl ⟨by rfl, ?_⟩) hHeld ?_
  rotate_left
  · (intro w hSw; obtain ⟨s0, s1, s2, s3, s4, s5⟩ := hSw; go_simp; try with_reducible rfl)
  simp only [Act.put, List.setIfInBounds_toArray, List.set_cons_zero, List.set_cons_succ]
  refine rh_take (i := 13) (k := 109) (v := ?_) rfl rfl (by kernel_rfl) (by kernel_rfl) (by kernel_rfl) (fun _ _ _ h => h) (Or.inl ⟨by rfl, ?_⟩) hHeld ?_
  rotate_left
  · (intro w hSw; obtain ⟨s0, s1, s2, s3, s4, s5⟩ := hSw; go_simp; try with_reducible rfl)
  simp only [Act.put, List.setIfInBounds_toArray, List.set_cons_zero, List.set_cons_succ]
  refine rh_take (i := 14) (k := 110) (v := ?_) rfl rfl (by kernel_rfl) (by kernel_rfl) (by kernel_rfl) (fun _ _ _ h => h) (Or.inl ⟨by rfl, ?_⟩) hHeld ?_
  rotate_left
  · (intro w hSw; obtain ⟨s0, s1, s2, s3, s4, s5⟩ := hSw; go_simp; try with_reducible rfl)
  simp only [Act.put, List.setIfInBounds_toArray, List.set_cons_zero, List.set_cons_succ]
  refine wpAnyH_ready (rs := [15]) (by kernel_rfl) (by simp) ?_
  refine AllReadyH.cons (i := 15) rfl (fun K hK => ?_) AllReadyH.nil
  go_simp
  refine (HT.out _).mono ?_
  rintro q w8 ⟨rfl, hd8⟩
  go_wp2_with fail
  refine hK.out _ _ ⟨keepc hd8 hHeld.1, keepc hd8 hHeld.2.1, keepc hd8 hHeld.2.2.1, keepc hd8 hHeld.2.2.2.1, keepc hd8 hHeld.2.2.2.2.1, ⟨belowS hd8 hHeld.2.2.2.2.2.out⟩⟩ (fun hHeld => ?_)
  clear hK K
  try simp only [Act.put, List.setIfInBounds_toArray, List.set_cons_zero, List.set_cons_succ]
  refine rh_take (i := 16) (k := 112) (v := ?_) rfl rfl (by kernel_rfl) (by kernel_rfl) (by kernel_rfl) (fun _ _ _ h => h) (Or.inl ⟨by rfl, ?_⟩) hHeld ?_
  rotate_left
  · (intro w hSw; obtain ⟨s0, s1, s2, s3, s4, s5⟩ := hSw; go_simp; try with_reducible rfl)
  simp only [Act.put, List.setIfInBounds_toArray, List.set_cons_zero, List.set_cons_succ]
  refine rh_take (i := 17) (k := 95) (v := ?_) rfl rfl (by kernel_rfl) (by kernel_rfl) (by kernel_rfl) (fun _ _ _ h => h) (Or.inl ⟨by rfl, ?_⟩) hHeld ?_
  rotate_left
  · (intro w hSw; obtain ⟨s0, s1, s2, s3, s4, s5⟩ := hSw; go_simp; try with_reducible rfl)
  simp only [Act.put, List.setIfInBounds_toArray, List.set_cons_zero, List.set_cons_succ]
  refine wpAnyH_done (by kernel_rfl) ?_ _
  have hb8 := hHeld.2.2.2.2.2.out
  clear hHeld
  have K0' := Lib.hid ((hb8.block w.heap.size (by omega)).trans K0.out)
  have K1' := Lib.hid ((hb8.block (w.heap.size + 1) (by omega)).trans K1.out)
  have KX' := Lib.hid ((hb8.block gx (by omega)).trans KX.out)
  have HB' := Lib.hid (belowS hb8 HB.out)
  have hz8 : gx + 1 ≤ w8.heap.size := Nat.le_trans hz7 hb8.size
  clear K0 K1 KX HB hz7 hzx hz0 hb8 HT
  have K0 := K0'
  have K1 := K1'
  have HB := HB'
  have x4 := cellOf KX'.out 4
  simp at x4
  have cpc := cellC K0.out hl0 32 (by omega)
  rw [hpc] at cpc
  have hzx : gx < w8.heap.size := by omega
  have hz0 : w.heap.size < w8.heap.size := by omega
  clear K0' K1' KX' HB'
  have hst := stRow K0.out 32 (((pc : Int) + 4) % 4294967296)
  have hf0 : World.frozen? w8 ⟨w.heap.size, 32, none⟩ = false := frozen_of_row _ _ _ _ _ K0.out
  have hl2 : ((c.set 0 0).set 32 (((pc : Int) + 4) % 4294967296)).length = 33 := by rw [List.length_set]; exact hl0
  have K0q := Lib.hid (setRow_heap _ w.heap.size _ (cv ((c.set 0 0).set 32 (((pc : Int) + 4) % 4294967296))) _ _ K0.out)
  have K1q := Lib.hid ((setRow_other w8 w.heap.size (w.heap.size + 1) (cv ((c.set 0 0).set 32 (((pc : Int) + 4) % 4294967296))) (by omega)).trans K1.out)
  go_wp2_with (first | refine ldC rfl _ rfl _ rfl _ (0, 0) K0q.out hl2 ?_ | refine stC rfl _ _ rfl _ _ rfl rfl zs K1q.out hl2 rfl ?_)
  refine retC2 rfl rfl (setRow_heap _ _ _ _ _ _ K1q.out) hl2 rfl rfl ⟨rfl, postB HM.out (below_setRow (below_setRow HB.out (by omega) _) (by omega) _)⟩
set_option maxHeartbeats 4000000 in
theorem Step_ecall (c : List Int) (hc : Wc c) (p bl n : Nat) (f : Nat → Nat) (w : World) (hM : Mm.MemAt w p bl n f) (hn : n < 80000000) (hmis : reg (c.set 0 0) 32 % 4 = 0) (op rd a b m e : Int) (hdec : decT (Mm.ld f (reg (c.set 0 0) 32).toNat 4) = (op, rd, a, b, m, e)) (he : e = 0) (r x y : Nat) (hrd : rd = r) (hra : a = x) (hrb : b = y) (hr1 : r < 32) (hx : x < 32) (hy : y < 32) (d : List Int) (hd : doesv (c.set 0 0) op rd a b m = (d, false)) (ho : op = 45) :
    Calls Try.prog 15 #[.agg (cv c), .pointer (some ⟨p, 0, none⟩)] w fun e w' => e = .returned (.tuple #[.agg (cv ((c.set 0 0).set 32 ((reg (c.set 0 0) 32 + 4) % 4294967296))), .int .i64 (1)]) ∧ Post w w' p bl n (f) := by
  have hl := hc.len
  have hc0 : Wc (c.set 0 0) := hc.set 0 0 (by omega)
  have hl0 := hc0.len
  have hf := hM.map.2.1
  have HM := Lib.hid hM
  have hlp := hM.lt
  have hlb := hM.map.lt
  clear hM
  obtain ⟨pc, hpc⟩ : ∃ pc : Nat, reg (c.set 0 0) 32 = (pc : Int) := ⟨(reg (c.set 0 0) 32).toNat, by have := hc0.rng 32; omega⟩
  have hpc2 : pc < 4294967296 := by have := hc0.rng 32; omega
  have hal : (pc : Int) % 4 = 0 := by rw [← hpc]; exact hmis
  have htm : Int.tmod (pc : Int) 4 = 0 := by have : Int.tmod (pc : Int) 4 = ((pc % 4 : Nat) : Int) := rfl
                                             omega
  have hpv : (reg (c.set 0 0) 32).toNat = pc := by omega
  have hld := Mm.ld_lt f pc 4 hf
  obtain ⟨v, hv⟩ : ∃ v, v = Mm.ld f pc 4 := ⟨_, rfl⟩
  rw [hpv] at hdec
  rw [← hv] at hld hdec
  have hv2 : v < 4294967296 := by simpa using hld
  have HV := Lib.hid hv
  have HD := Lib.hid (Decode_c v hv2 op rd a b m e hdec)
  clear hv hld hdec hpv hmis hf
  have HM2 := Lib.hid ((HM.out.alloc (.cells (cv (c.set 0 0)) 25)).alloc (.cells (cv zs) 25))
  subst he
  subst hrd
  subst hra
  subst hrb
  have hx' : (x : Int) < 32 := by omega
  have hy' : (y : Int) < 32 := by omega
  have hds := Does_calls (c.set 0 0) hc0 op r x y m
  have hld := (hc0.does op r x y m).len
  rw [hd] at hds hld
  simp only at hds hld
  have HDS := Lib.hid hds
  have HFM := Lib.hid (Form_c op)
  clear hds hd
  subst ho
  rw [show Q.frm 45 = 69 by decide +kernel] at HFM
  rw [hpc]
  go_enter Try.func15, Try.ntmps15
  go_wp2_with (first | refine alC rfl rfl ?_ | (go_at_call 35; refine hold_ ?_))
  intro _
  refine (Mm.Load_at HM2.out pc 4 v _ _ rfl rfl HV.out hpc2 (by omega)).mono ?_
  rintro x w2 ⟨rfl, hw2⟩
  go_wp2_with (go_at_call 36; refine hold_ ?_)
  intro _
  refine (HD.out _).mono ?_
  rintro x w4 ⟨rfl, hbw⟩
  rw [← hw2] at hbw
  obtain ⟨k0, k1, hz, hB⟩ := keep2 hbw
  clear hbw HD HV HM2 hw2
  have HB := Lib.hid hB
  have K0 := Lib.hid k0
  have K1 := Lib.hid k1
  clear hB k0 k1
  have K0x := Lib.hid ((Below.heap_alloc w4 (.cells #[.int .i64 45, .int .i64 r, .int .i64 x, .int .i64 y, .int .i64 m] 27) w.heap.size (by omega)).trans K0.out)
  have K1x := Lib.hid ((Below.heap_alloc w4 (.cells #[.int .i64 45, .int .i64 r, .int .i64 x, .int .i64 y, .int .i64 m] 27) (w.heap.size + 1) (by omega)).trans K1.out)
  have HBx := Lib.hid (HB.out.alloc (by omega) (.cells #[.int .i64 45, .int .i64 r, .int .i64 x, .int .i64 y, .int .i64 m] 27))
  go_wp2_with (first | refine ldC rfl _ rfl _ rfl _ (0, 0) K0x.out hl0 ?_ | (go_at_call 9; refine hold_ ?_))
  intro _
  refine (HDS.out _).mono ?_
  rintro x w5 ⟨rfl, hbw⟩
  have KX := Lib.hid ((hbw.block w4.heap.size (by simp)).trans (World.alloc_heap_new w4 (.cells #[.int .i64 45, .int .i64 r, .int .i64 x, .int .i64 y, .int .i64 m] 27)))
  have K0y := Lib.hid ((hbw.block w.heap.size (by simp; omega)).trans K0x.out)
  have K1y := Lib.hid ((hbw.block (w.heap.size + 1) (by simp; omega)).trans K1x.out)
  have HBy := Lib.hid (belowS hbw HBx.out)
  have hz5 : w4.heap.size + 1 ≤ w5.heap.size := by have := hbw.size; simpa using this
  obtain ⟨gx, hgx⟩ : ∃ gx, gx = w4.heap.size := ⟨_, rfl⟩
  rw [← hgx] at KX hz hz5 ⊢
  clear hbw K0 K1 HB K0x K1x HBx HDS hgx
  have x0 := cellOf KX.out 0
  simp at x0
  have hzx : gx < w5.heap.size := by omega
  have hzy : gx < w5.heap.size + 1 := by omega
  go_wp2_with (first | refine alC rfl rfl ?_ | refine stN rfl _ _ rfl _ rfl rfl zs hld rfl ?_ | (go_at_call 37; refine hold_ ?_))
  intro _
  refine (HFM.out _).mono ?_
  rintro q w7 ⟨rfl, hbw⟩
  have K0 := Lib.hid ((hbw.block w.heap.size (by simp; omega)).trans ((Below.heap_alloc w5 _ w.heap.size (by omega)).trans K0y.out))
  have K1 := Lib.hid ((hbw.block (w.heap.size + 1) (by simp; omega)).trans ((Below.heap_alloc w5 _ (w.heap.size + 1) (by omega)).trans K1y.out))
  have KX' := Lib.hid ((hbw.block gx (by simp; omega)).trans ((Below.heap_alloc w5 _ gx (by omega)).trans KX.out))
  have HB := Lib.hid (belowS hbw (HBy.out.alloc (by omega) _))
  have hz7 : gx + 1 ≤ w7.heap.size := by have := hbw.size; simp at this; omega
  clear hbw x0 hzx hzy K0y K1y KX HBy HFM
  have KX := KX'
  clear KX'
  have x0 := cellOf KX.out 0
  have x1 := cellOf KX.out 1
  have x2 := cellOf KX.out 2
  have x3 := cellOf KX.out 3
  have x4 := cellOf KX.out 4
  simp at x0 x1 x2 x3 x4
  have hzx : gx < w7.heap.size := by omega
  have hz0 : w.heap.size < w7.heap.size := by omega
  have cpc := cellC K0.out hl0 32 (by omega)
  rw [hpc] at cpc
  go_wp2
  refine wp_region_held_drew (S := fun w' => w' = w7.drew) (by kernel_rfl) rfl (fun hHeld => ?_)
  refine rh_take (i := 0) (k := 96) (v := ?_) rfl rfl (by kernel_rfl) (by kernel_rfl) (by kernel_rfl) (fun _ _ _ h => h) (Or.inl ⟨by rfl, ?_⟩) hHeld ?_
  rotate_left
  · (intro w hSw; obtain ⟨-⟩ := hSw; go_simp; try with_reducible rfl)
  simp only [Act.put, List.setIfInBounds_toArray, List.set_cons_zero, List.set_cons_succ]
  refine rh_take (i := 1) (k := 97) (v := ?_) rfl rfl (by kernel_rfl) (by kernel_rfl) (by kernel_rfl) (fun _ _ _ h => h) (Or.inl ⟨by rfl, ?_⟩) hHeld ?_
  rotate_left
  · (intro w hSw; obtain ⟨-⟩ := hSw; go_simp; try with_reducible rfl)
  simp only [Act.put, List.setIfInBounds_toArray, List.set_cons_zero, List.set_cons_succ]
  refine rh_take (i := 2) (k := 98) (v := ?_) rfl rfl (by kernel_rfl) (by kernel_rfl) (by kernel_rfl) (fun _ _ _ h => h) (Or.inl ⟨by rfl, ?_⟩) hHeld ?_
  rotate_left
  · (intro w hSw; obtain ⟨-⟩ := hSw; go_simp; try with_reducible rfl)
  simp only [Act.put, List.setIfInBounds_toArray, List.set_cons_zero, List.set_cons_succ]
  refine rh_take (i := 3) (k := 99) (v := undef) rfl rfl (by kernel_rfl) (by kernel_rfl) (by kernel_rfl) (fun _ _ _ h => h) (Or.inr ⟨by rfl, rfl⟩) hHeld ?_
  simp only [Act.put, List.setIfInBounds_toArray, List.set_cons_zero, List.set_cons_succ]
  refine rh_take (i := 4) (k := 100) (v := undef) rfl rfl (by kernel_rfl) (by kernel_rfl) (by kernel_rfl) (fun _ _ _ h => h) (Or.inr ⟨by rfl, rfl⟩) hHeld ?_
  simp only [Act.put, List.setIfInBounds_toArray, List.set_cons_zero, List.set_cons_succ]
  refine rh_take (i := 5) (k := 101) (v := undef) rfl rfl (by kernel_rfl) (by kernel_rfl) (by kernel_rfl) (fun _ _ _ h => h) (Or.inr ⟨by rfl, rfl⟩) hHeld ?_
  simp only [Act.put, List.setIfInBounds_toArray, List.set_cons_zero, List.set_cons_succ]
  refine rh_take (i := 6) (k := 102) (v := undef) rfl rfl (by kernel_rfl) (by kernel_rfl) (by kernel_rfl) (fun _ _ _ h => h) (Or.inr ⟨by rfl, rfl⟩) hHeld ?_
  simp only [Act.put, List.setIfInBounds_toArray, List.set_cons_zero, List.set_cons_succ]
  refine rh_take (i := 7) (k := 103) (v := undef) rfl rfl (by kernel_rfl) (by kernel_rfl) (by kernel_rfl) (fun _ _ _ h => h) (Or.inr ⟨by rfl, rfl⟩) hHeld ?_
  simp only [Act.put, List.setIfInBounds_toArray, List.set_cons_zero, List.set_cons_succ]
  refine rh_take (i := 8) (k := 104) (v := undef) rfl rfl (by kernel_rfl) (by kernel_rfl) (by kernel_rfl) (fun _ _ _ h => h) (Or.inr ⟨by rfl, rfl⟩) hHeld ?_
  simp only [Act.put, List.setIfInBounds_toArray, List.set_cons_zero, List.set_cons_succ]
  refine rh_take (i := 9) (k := 105) (v := undef) rfl rfl (by kernel_rfl) (by kernel_rfl) (by kernel_rfl) (fun _ _ _ h => h) (Or.inr ⟨by rfl, rfl⟩) hHeld ?_
  simp only [Act.put, List.setIfInBounds_toArray, List.set_cons_zero, List.set_cons_succ]
  refine rh_take (i := 10) (k := 106) (v := undef) rfl rfl (by kernel_rfl) (by kernel_rfl) (by kernel_rfl) (fun _ _ _ h => h) (Or.inr ⟨by rfl, rfl⟩) hHeld ?_
  simp only [Act.put, List.setIfInBounds_toArray, List.set_cons_zero, List.set_cons_succ]
  refine rh_take (i := 11) (k := 107) (v := undef) rfl rfl (by kernel_rfl) (by kernel_rfl) (by kernel_rfl) (fun _ _ _ h => h) (Or.inr ⟨by rfl, rfl⟩) hHeld ?_
  simp only [Act.put, List.setIfInBounds_toArray, List.set_cons_zero, List.set_cons_succ]
  refine rh_take (i := 12) (k := 108) (v := undef) rfl rfl (by kernel_rfl) (by kernel_rfl) (by kernel_rfl) (fun _ _ _ h => h) (Or.inr ⟨by rfl, rfl⟩) hHeld ?_
  simp only [Act.put, List.setIfInBounds_toArray, List.set_cons_zero, List.set_cons_succ]
  refine rh_take (i := 13) (k := 109) (v := undef) rfl rfl (by kernel_rfl) (by kernel_rfl) (by kernel_rfl) (fun _ _ _ h => h) (Or.inr ⟨by rfl, rfl⟩) hHeld ?_
  simp only [Act.put, List.setIfInBounds_toArray, List.set_cons_zero, List.set_cons_succ]
  refine rh_take (i := 14) (k := 110) (v := undef) rfl rfl (by kernel_rfl) (by kernel_rfl) (by kernel_rfl) (fun _ _ _ h => h) (Or.inr ⟨by rfl, rfl⟩) hHeld ?_
  simp only [Act.put, List.setIfInBounds_toArray, List.set_cons_zero, List.set_cons_succ]
  refine rh_take (i := 15) (k := 111) (v := undef) rfl rfl (by kernel_rfl) (by kernel_rfl) (by kernel_rfl) (fun _ _ _ h => h) (Or.inr ⟨by rfl, rfl⟩) hHeld ?_
  simp only [Act.put, List.setIfInBounds_toArray, List.set_cons_zero, List.set_cons_succ]
  refine rh_take (i := 16) (k := 112) (v := ?_) rfl rfl (by kernel_rfl) (by kernel_rfl) (by kernel_rfl) (fun _ _ _ h => h) (Or.inl ⟨by rfl, ?_⟩) hHeld ?_
  rotate_left
  · (intro w hSw; obtain ⟨-⟩ := hSw; go_simp; try with_reducible rfl)
  simp only [Act.put, List.setIfInBounds_toArray, List.set_cons_zero, List.set_cons_succ]
  refine rh_take (i := 17) (k := 95) (v := ?_) rfl rfl (by kernel_rfl) (by kernel_rfl) (by kernel_rfl) (fun _ _ _ h => h) (Or.inl ⟨by rfl, ?_⟩) hHeld ?_
  rotate_left
  · (intro w hSw; obtain ⟨-⟩ := hSw; go_simp; try with_reducible rfl)
  simp only [Act.put, List.setIfInBounds_toArray, List.set_cons_zero, List.set_cons_succ]
  refine wpAnyH_done (by kernel_rfl) ?_ _
  clear hHeld
  have K0' := Lib.hid (show w7.drew.heap[w.heap.size]? = _ from K0.out)
  have K1' := Lib.hid (show w7.drew.heap[w.heap.size + 1]? = _ from K1.out)
  have KX' := Lib.hid (show w7.drew.heap[gx]? = _ from KX.out)
  have HB' := Lib.hid HB.out.drew
  have hz8 : gx + 1 ≤ w7.drew.heap.size := hz7
  clear x0 x1 x2 x3 x4 cpc K0 K1 KX HB hz7 hzx hz0
  generalize w7.drew = w8 at *
  have K0 := K0'
  have K1 := K1'
  have KX := KX'
  have HB := HB'
  clear K0' K1' KX' HB'
  have x0 := cellOf KX.out 0
  have x1 := cellOf KX.out 1
  have x2 := cellOf KX.out 2
  have x3 := cellOf KX.out 3
  have x4 := cellOf KX.out 4
  simp at x0 x1 x2 x3 x4
  have cpc := cellC K0.out hl0 32 (by omega)
  rw [hpc] at cpc
  have hzx : gx < w8.heap.size := by omega
  have hz0 : w.heap.size < w8.heap.size := by omega
  have hst := stRow K0.out 32 (((pc : Int) + 4) % 4294967296)
  have hf0 : World.frozen? w8 ⟨w.heap.size, 32, none⟩ = false := frozen_of_row _ _ _ _ _ K0.out
  have hl2 : ((c.set 0 0).set 32 (((pc : Int) + 4) % 4294967296)).length = 33 := by rw [List.length_set]; exact hl0
  have K0q := Lib.hid (setRow_heap _ w.heap.size _ (cv ((c.set 0 0).set 32 (((pc : Int) + 4) % 4294967296))) _ _ K0.out)
  have K1q := Lib.hid ((setRow_other w8 w.heap.size (w.heap.size + 1) (cv ((c.set 0 0).set 32 (((pc : Int) + 4) % 4294967296))) (by omega)).trans K1.out)
  go_wp2_with (first | refine ldC rfl _ rfl _ rfl _ (0, 0) K0q.out hl2 ?_ | refine stC rfl _ _ rfl _ _ rfl rfl zs K1q.out hl2 rfl ?_)
  refine retC2 rfl rfl (setRow_heap _ _ _ _ _ _ K1q.out) hl2 rfl rfl ⟨rfl, postB HM.out (below_setRow (below_setRow HB.out (by omega) _) (by omega) _)⟩
set_option maxHeartbeats 4000000 in
theorem Step_ebreak (c : List Int) (hc : Wc c) (p bl n : Nat) (f : Nat → Nat) (w : World) (hM : Mm.MemAt w p bl n f) (hn : n < 80000000) (hmis : reg (c.set 0 0) 32 % 4 = 0) (op rd a b m e : Int) (hdec : decT (Mm.ld f (reg (c.set 0 0) 32).toNat 4) = (op, rd, a, b, m, e)) (he : e = 0) (r x y : Nat) (hrd : rd = r) (hra : a = x) (hrb : b = y) (hr1 : r < 32) (hx : x < 32) (hy : y < 32) (d : List Int) (hd : doesv (c.set 0 0) op rd a b m = (d, false)) (ho : op = 46) :
    Calls Try.prog 15 #[.agg (cv c), .pointer (some ⟨p, 0, none⟩)] w fun e w' => e = .returned (.tuple #[.agg (cv (c.set 0 0)), .int .i64 (2)]) ∧ Post w w' p bl n (f) := by
  have hl := hc.len
  have hc0 : Wc (c.set 0 0) := hc.set 0 0 (by omega)
  have hl0 := hc0.len
  have hf := hM.map.2.1
  have HM := Lib.hid hM
  have hlp := hM.lt
  have hlb := hM.map.lt
  clear hM
  obtain ⟨pc, hpc⟩ : ∃ pc : Nat, reg (c.set 0 0) 32 = (pc : Int) := ⟨(reg (c.set 0 0) 32).toNat, by have := hc0.rng 32; omega⟩
  have hpc2 : pc < 4294967296 := by have := hc0.rng 32; omega
  have hal : (pc : Int) % 4 = 0 := by rw [← hpc]; exact hmis
  have htm : Int.tmod (pc : Int) 4 = 0 := by have : Int.tmod (pc : Int) 4 = ((pc % 4 : Nat) : Int) := rfl
                                             omega
  have hpv : (reg (c.set 0 0) 32).toNat = pc := by omega
  have hld := Mm.ld_lt f pc 4 hf
  obtain ⟨v, hv⟩ : ∃ v, v = Mm.ld f pc 4 := ⟨_, rfl⟩
  rw [hpv] at hdec
  rw [← hv] at hld hdec
  have hv2 : v < 4294967296 := by simpa using hld
  have HV := Lib.hid hv
  have HD := Lib.hid (Decode_c v hv2 op rd a b m e hdec)
  clear hv hld hdec hpv hmis hf
  have HM2 := Lib.hid ((HM.out.alloc (.cells (cv (c.set 0 0)) 25)).alloc (.cells (cv zs) 25))
  subst he
  subst hrd
  subst hra
  subst hrb
  have hx' : (x : Int) < 32 := by omega
  have hy' : (y : Int) < 32 := by omega
  have hds := Does_calls (c.set 0 0) hc0 op r x y m
  have hld := (hc0.does op r x y m).len
  rw [hd] at hds hld
  simp only at hds hld
  have HDS := Lib.hid hds
  have HFM := Lib.hid (Form_c op)
  clear hds hd
  subst ho
  rw [show Q.frm 46 = 69 by decide +kernel] at HFM
  go_enter Try.func15, Try.ntmps15
  go_wp2_with (first | refine alC rfl rfl ?_ | (go_at_call 35; refine hold_ ?_))
  intro _
  refine (Mm.Load_at HM2.out pc 4 v _ _ rfl rfl HV.out hpc2 (by omega)).mono ?_
  rintro x w2 ⟨rfl, hw2⟩
  go_wp2_with (go_at_call 36; refine hold_ ?_)
  intro _
  refine (HD.out _).mono ?_
  rintro x w4 ⟨rfl, hbw⟩
  rw [← hw2] at hbw
  obtain ⟨k0, k1, hz, hB⟩ := keep2 hbw
  clear hbw HD HV HM2 hw2
  have HB := Lib.hid hB
  have K0 := Lib.hid k0
  have K1 := Lib.hid k1
  clear hB k0 k1
  have K0x := Lib.hid ((Below.heap_alloc w4 (.cells #[.int .i64 46, .int .i64 r, .int .i64 x, .int .i64 y, .int .i64 m] 27) w.heap.size (by omega)).trans K0.out)
  have K1x := Lib.hid ((Below.heap_alloc w4 (.cells #[.int .i64 46, .int .i64 r, .int .i64 x, .int .i64 y, .int .i64 m] 27) (w.heap.size + 1) (by omega)).trans K1.out)
  have HBx := Lib.hid (HB.out.alloc (by omega) (.cells #[.int .i64 46, .int .i64 r, .int .i64 x, .int .i64 y, .int .i64 m] 27))
  go_wp2_with (first | refine ldC rfl _ rfl _ rfl _ (0, 0) K0x.out hl0 ?_ | (go_at_call 9; refine hold_ ?_))
  intro _
  refine (HDS.out _).mono ?_
  rintro x w5 ⟨rfl, hbw⟩
  have KX := Lib.hid ((hbw.block w4.heap.size (by simp)).trans (World.alloc_heap_new w4 (.cells #[.int .i64 46, .int .i64 r, .int .i64 x, .int .i64 y, .int .i64 m] 27)))
  have K0y := Lib.hid ((hbw.block w.heap.size (by simp; omega)).trans K0x.out)
  have K1y := Lib.hid ((hbw.block (w.heap.size + 1) (by simp; omega)).trans K1x.out)
  have HBy := Lib.hid (belowS hbw HBx.out)
  have hz5 : w4.heap.size + 1 ≤ w5.heap.size := by have := hbw.size; simpa using this
  obtain ⟨gx, hgx⟩ : ∃ gx, gx = w4.heap.size := ⟨_, rfl⟩
  rw [← hgx] at KX hz hz5 ⊢
  clear hbw K0 K1 HB K0x K1x HBx HDS hgx
  have x0 := cellOf KX.out 0
  simp at x0
  have hzx : gx < w5.heap.size := by omega
  have hzy : gx < w5.heap.size + 1 := by omega
  go_wp2_with (first | refine alC rfl rfl ?_ | refine stN rfl _ _ rfl _ rfl rfl zs hld rfl ?_ | (go_at_call 37; refine hold_ ?_))
  intro _
  refine (HFM.out _).mono ?_
  rintro q w7 ⟨rfl, hbw⟩
  have K0 := Lib.hid ((hbw.block w.heap.size (by simp; omega)).trans ((Below.heap_alloc w5 _ w.heap.size (by omega)).trans K0y.out))
  have K1 := Lib.hid ((hbw.block (w.heap.size + 1) (by simp; omega)).trans ((Below.heap_alloc w5 _ (w.heap.size + 1) (by omega)).trans K1y.out))
  have KX' := Lib.hid ((hbw.block gx (by simp; omega)).trans ((Below.heap_alloc w5 _ gx (by omega)).trans KX.out))
  have HB := Lib.hid (belowS hbw (HBy.out.alloc (by omega) _))
  have hz7 : gx + 1 ≤ w7.heap.size := by have := hbw.size; simp at this; omega
  clear hbw x0 hzx hzy K0y K1y KX HBy HFM
  have KX := KX'
  clear KX'
  have x0 := cellOf KX.out 0
  have x1 := cellOf KX.out 1
  have x2 := cellOf KX.out 2
  have x3 := cellOf KX.out 3
  have x4 := cellOf KX.out 4
  simp at x0 x1 x2 x3 x4
  have hzx : gx < w7.heap.size := by omega
  have hz0 : w.heap.size < w7.heap.size := by omega
  have cpc := cellC K0.out hl0 32 (by omega)
  rw [hpc] at cpc
  go_wp2
  refine wp_region_held_drew (S := fun w' => w' = w7.drew) (by kernel_rfl) rfl (fun hHeld => ?_)
  refine rh_take (i := 0) (k := 96) (v := ?_) rfl rfl (by kernel_rfl) (by kernel_rfl) (by kernel_rfl) (fun _ _ _ h => h) (Or.inl ⟨by rfl, ?_⟩) hHeld ?_
  rotate_left
  · (intro w hSw; obtain ⟨-⟩ := hSw; go_simp; try with_reducible rfl)
  simp only [Act.put, List.setIfInBounds_toArray, List.set_cons_zero, List.set_cons_succ]
  refine rh_take (i := 1) (k := 97) (v := ?_) rfl rfl (by kernel_rfl) (by kernel_rfl) (by kernel_rfl) (fun _ _ _ h => h) (Or.inl ⟨by rfl, ?_⟩) hHeld ?_
  rotate_left
  · (intro w hSw; obtain ⟨-⟩ := hSw; go_simp; try with_reducible rfl)
  simp only [Act.put, List.setIfInBounds_toArray, List.set_cons_zero, List.set_cons_succ]
  refine rh_take (i := 2) (k := 98) (v := ?_) rfl rfl (by kernel_rfl) (by kernel_rfl) (by kernel_rfl) (fun _ _ _ h => h) (Or.inl ⟨by rfl, ?_⟩) hHeld ?_
  rotate_left
  · (intro w hSw; obtain ⟨-⟩ := hSw; go_simp; try with_reducible rfl)
  simp only [Act.put, List.setIfInBounds_toArray, List.set_cons_zero, List.set_cons_succ]
  refine rh_take (i := 3) (k := 99) (v := undef) rfl rfl (by kernel_rfl) (by kernel_rfl) (by kernel_rfl) (fun _ _ _ h => h) (Or.inr ⟨by rfl, rfl⟩) hHeld ?_
  simp only [Act.put, List.setIfInBounds_toArray, List.set_cons_zero, List.set_cons_succ]
  refine rh_take (i := 4) (k := 100) (v := undef) rfl rfl (by kernel_rfl) (by kernel_rfl) (by kernel_rfl) (fun _ _ _ h => h) (Or.inr ⟨by rfl, rfl⟩) hHeld ?_
  simp only [Act.put, List.setIfInBounds_toArray, List.set_cons_zero, List.set_cons_succ]
  refine rh_take (i := 5) (k := 101) (v := undef) rfl rfl (by kernel_rfl) (by kernel_rfl) (by kernel_rfl) (fun _ _ _ h => h) (Or.inr ⟨by rfl, rfl⟩) hHeld ?_
  simp only [Act.put, List.setIfInBounds_toArray, List.set_cons_zero, List.set_cons_succ]
  refine rh_take (i := 6) (k := 102) (v := undef) rfl rfl (by kernel_rfl) (by kernel_rfl) (by kernel_rfl) (fun _ _ _ h => h) (Or.inr ⟨by rfl, rfl⟩) hHeld ?_
  simp only [Act.put, List.setIfInBounds_toArray, List.set_cons_zero, List.set_cons_succ]
  refine rh_take (i := 7) (k := 103) (v := undef) rfl rfl (by kernel_rfl) (by kernel_rfl) (by kernel_rfl) (fun _ _ _ h => h) (Or.inr ⟨by rfl, rfl⟩) hHeld ?_
  simp only [Act.put, List.setIfInBounds_toArray, List.set_cons_zero, List.set_cons_succ]
  refine rh_take (i := 8) (k := 104) (v := undef) rfl rfl (by kernel_rfl) (by kernel_rfl) (by kernel_rfl) (fun _ _ _ h => h) (Or.inr ⟨by rfl, rfl⟩) hHeld ?_
  simp only [Act.put, List.setIfInBounds_toArray, List.set_cons_zero, List.set_cons_succ]
  refine rh_take (i := 9) (k := 105) (v := undef) rfl rfl (by kernel_rfl) (by kernel_rfl) (by kernel_rfl) (fun _ _ _ h => h) (Or.inr ⟨by rfl, rfl⟩) hHeld ?_
  simp only [Act.put, List.setIfInBounds_toArray, List.set_cons_zero, List.set_cons_succ]
  refine rh_take (i := 10) (k := 106) (v := undef) rfl rfl (by kernel_rfl) (by kernel_rfl) (by kernel_rfl) (fun _ _ _ h => h) (Or.inr ⟨by rfl, rfl⟩) hHeld ?_
  simp only [Act.put, List.setIfInBounds_toArray, List.set_cons_zero, List.set_cons_succ]
  refine rh_take (i := 11) (k := 107) (v := undef) rfl rfl (by kernel_rfl) (by kernel_rfl) (by kernel_rfl) (fun _ _ _ h => h) (Or.inr ⟨by rfl, rfl⟩) hHeld ?_
  simp only [Act.put, List.setIfInBounds_toArray, List.set_cons_zero, List.set_cons_succ]
  refine rh_take (i := 12) (k := 108) (v := undef) rfl rfl (by kernel_rfl) (by kernel_rfl) (by kernel_rfl) (fun _ _ _ h => h) (Or.inr ⟨by rfl, rfl⟩) hHeld ?_
  simp only [Act.put, List.setIfInBounds_toArray, List.set_cons_zero, List.set_cons_succ]
  refine rh_take (i := 13) (k := 109) (v := undef) rfl rfl (by kernel_rfl) (by kernel_rfl) (by kernel_rfl) (fun _ _ _ h => h) (Or.inr ⟨by rfl, rfl⟩) hHeld ?_
  simp only [Act.put, List.setIfInBounds_toArray, List.set_cons_zero, List.set_cons_succ]
  refine rh_take (i := 14) (k := 110) (v := undef) rfl rfl (by kernel_rfl) (by kernel_rfl) (by kernel_rfl) (fun _ _ _ h => h) (Or.inr ⟨by rfl, rfl⟩) hHeld ?_
  simp only [Act.put, List.setIfInBounds_toArray, List.set_cons_zero, List.set_cons_succ]
  refine rh_take (i := 15) (k := 111) (v := undef) rfl rfl (by kernel_rfl) (by kernel_rfl) (by kernel_rfl) (fun _ _ _ h => h) (Or.inr ⟨by rfl, rfl⟩) hHeld ?_
  simp only [Act.put, List.setIfInBounds_toArray, List.set_cons_zero, List.set_cons_succ]
  refine rh_take (i := 16) (k := 112) (v := ?_) rfl rfl (by kernel_rfl) (by kernel_rfl) (by kernel_rfl) (fun _ _ _ h => h) (Or.inl ⟨by rfl, ?_⟩) hHeld ?_
  rotate_left
  · (intro w hSw; obtain ⟨-⟩ := hSw; go_simp; try with_reducible rfl)
  simp only [Act.put, List.setIfInBounds_toArray, List.set_cons_zero, List.set_cons_succ]
  refine rh_take (i := 17) (k := 95) (v := ?_) rfl rfl (by kernel_rfl) (by kernel_rfl) (by kernel_rfl) (fun _ _ _ h => h) (Or.inl ⟨by rfl, ?_⟩) hHeld ?_
  rotate_left
  · (intro w hSw; obtain ⟨-⟩ := hSw; go_simp; try with_reducible rfl)
  simp only [Act.put, List.setIfInBounds_toArray, List.set_cons_zero, List.set_cons_succ]
  refine wpAnyH_done (by kernel_rfl) ?_ _
  clear hHeld
  have K0' := Lib.hid (show w7.drew.heap[w.heap.size]? = _ from K0.out)
  have K1' := Lib.hid (show w7.drew.heap[w.heap.size + 1]? = _ from K1.out)
  have KX' := Lib.hid (show w7.drew.heap[gx]? = _ from KX.out)
  have HB' := Lib.hid HB.out.drew
  have hz8 : gx + 1 ≤ w7.drew.heap.size := hz7
  clear x0 x1 x2 x3 x4 cpc K0 K1 KX HB hz7 hzx hz0
  generalize w7.drew = w8 at *
  have K0 := K0'
  have K1 := K1'
  have KX := KX'
  have HB := HB'
  clear K0' K1' KX' HB'
  have x0 := cellOf KX.out 0
  have x1 := cellOf KX.out 1
  have x2 := cellOf KX.out 2
  have x3 := cellOf KX.out 3
  have x4 := cellOf KX.out 4
  simp at x0 x1 x2 x3 x4
  have cpc := cellC K0.out hl0 32 (by omega)
  rw [hpc] at cpc
  have hzx : gx < w8.heap.size := by omega
  have hz0 : w.heap.size < w8.heap.size := by omega
  go_wp2_with (first | refine ldC rfl _ rfl _ rfl _ (0, 0) K0.out hl0 ?_ | refine stC rfl _ _ rfl _ _ rfl rfl zs K1.out hl0 rfl ?_)
  refine retC2 rfl rfl (setRow_heap _ _ _ _ _ _ K1.out) hl0 rfl rfl ⟨rfl, postB HM.out (below_setRow HB.out (by omega) _)⟩
set_option maxHeartbeats 4000000 in
theorem Step_acc (c : List Int) (hc : Wc c) (p bl n : Nat) (f : Nat → Nat) (w : World) (hM : Mm.MemAt w p bl n f) (hn : n < 80000000) (hmis : reg (c.set 0 0) 32 % 4 = 0) (op rd a b m e : Int) (hdec : decT (Mm.ld f (reg (c.set 0 0) 32).toNat 4) = (op, rd, a, b, m, e)) (he : e = 0) (r x y : Nat) (hrd : rd = r) (hra : a = x) (hrb : b = y) (hr1 : r < 32) (hx : x < 32) (hy : y < 32) (d : List Int) (hd : doesv (c.set 0 0) op rd a b m = (d, false)) (ho : 10 ≤ op ∧ op ≤ 17) :
    Calls Try.prog 15 #[.agg (cv c), .pointer (some ⟨p, 0, none⟩)] w fun e w' => e = .returned (.tuple #[.agg (cv ((accessv (c.set 0 0) f op r x y m).1)), .int .i64 ((accessv (c.set 0 0) f op r x y m).2.2)]) ∧ Post w w' p bl n ((accessv (c.set 0 0) f op r x y m).2.1) := by
  have hl := hc.len
  have hc0 : Wc (c.set 0 0) := hc.set 0 0 (by omega)
  have hl0 := hc0.len
  have hf := hM.map.2.1
  have HM := Lib.hid hM
  have hlp := hM.lt
  have hlb := hM.map.lt
  clear hM
  obtain ⟨pc, hpc⟩ : ∃ pc : Nat, reg (c.set 0 0) 32 = (pc : Int) := ⟨(reg (c.set 0 0) 32).toNat, by have := hc0.rng 32; omega⟩
  have hpc2 : pc < 4294967296 := by have := hc0.rng 32; omega
  have hf2 := hf
  have hacc := fun w (hM : Mm.MemAt w p bl n f) => access_calls (c.set 0 0) hc0 op r x y hr1 hx hy m ho p bl n f w hM hn hf2
  have hal : (pc : Int) % 4 = 0 := by rw [← hpc]; exact hmis
  have htm : Int.tmod (pc : Int) 4 = 0 := by have : Int.tmod (pc : Int) 4 = ((pc % 4 : Nat) : Int) := rfl
                                             omega
  have hpv : (reg (c.set 0 0) 32).toNat = pc := by omega
  have hld := Mm.ld_lt f pc 4 hf
  obtain ⟨v, hv⟩ : ∃ v, v = Mm.ld f pc 4 := ⟨_, rfl⟩
  rw [hpv] at hdec
  rw [← hv] at hld hdec
  have hv2 : v < 4294967296 := by simpa using hld
  have HV := Lib.hid hv
  have HD := Lib.hid (Decode_c v hv2 op rd a b m e hdec)
  clear hv hld hdec hpv hmis hf
  have HM2 := Lib.hid ((HM.out.alloc (.cells (cv (c.set 0 0)) 25)).alloc (.cells (cv zs) 25))
  subst he
  subst hrd
  subst hra
  subst hrb
  have hx' : (x : Int) < 32 := by omega
  have hy' : (y : Int) < 32 := by omega
  have hds := Does_calls (c.set 0 0) hc0 op r x y m
  have hld := (hc0.does op r x y m).len
  rw [hd] at hds hld
  simp only at hds hld
  have HDS := Lib.hid hds
  have HFM := Lib.hid (Form_c op)
  clear hds hd
  have hB : Q.frm op ≠ 66 := by
    have e : ∀ n : Fin 8, Q.frm (10 + (n.val : Int)) ≠ 66 := by decide +kernel
    have := e ⟨(op - 10).toNat, by omega⟩
    rw [show (10 + ((⟨(op - 10).toNat, by omega⟩ : Fin 8).val : Int)) = op by simp only; omega] at this
    exact this
  have bB : (Q.frm op == 66) = false := beq_eq_false_iff_ne.mpr hB
  have b2 : (op == 2) = false := beq_eq_false_iff_ne.mpr (by omega)
  have b3 : (op == 3) = false := beq_eq_false_iff_ne.mpr (by omega)
  have b45 : (op == 45) = false := beq_eq_false_iff_ne.mpr (by omega)
  have b46 : (op == 46) = false := beq_eq_false_iff_ne.mpr (by omega)
  have hl3 : (accessv (c.set 0 0) f op r x y m).1.length = 33 := accessv_len _ _ _ _ _ _ _ hl0
  generalize Q.frm op = fo at *
  generalize accessv (c.set 0 0) f op r x y m = ac at *
  obtain ⟨ac1, ac2, ac3⟩ := ac
  simp only at hacc hl3 ⊢
  have HAC := Lib.hid hacc
  clear hacc hB ho
  go_enter Try.func15, Try.ntmps15
  go_wp2_with (first | refine alC rfl rfl ?_ | (go_at_call 35; refine hold_ ?_))
  intro _
  refine (Mm.Load_at HM2.out pc 4 v _ _ rfl rfl HV.out hpc2 (by omega)).mono ?_
  rintro x w2 ⟨rfl, hw2⟩
  go_wp2_with (go_at_call 36; refine hold_ ?_)
  intro _
  refine (HD.out _).mono ?_
  rintro x w4 ⟨rfl, hbw⟩
  rw [← hw2] at hbw
  obtain ⟨k0, k1, hz, hB⟩ := keep2 hbw
  clear hbw HD HV HM2 hw2
  have HB := Lib.hid hB
  have K0 := Lib.hid k0
  have K1 := Lib.hid k1
  clear hB k0 k1
  have K0x := Lib.hid ((Below.heap_alloc w4 (.cells #[.int .i64 op, .int .i64 r, .int .i64 x, .int .i64 y, .int .i64 m] 27) w.heap.size (by omega)).trans K0.out)
  have K1x := Lib.hid ((Below.heap_alloc w4 (.cells #[.int .i64 op, .int .i64 r, .int .i64 x, .int .i64 y, .int .i64 m] 27) (w.heap.size + 1) (by omega)).trans K1.out)
  have HBx := Lib.hid (HB.out.alloc (by omega) (.cells #[.int .i64 op, .int .i64 r, .int .i64 x, .int .i64 y, .int .i64 m] 27))
  go_wp2_with (first | refine ldC rfl _ rfl _ rfl _ (0, 0) K0x.out hl0 ?_ | (go_at_call 9; refine hold_ ?_))
  intro _
  refine (HDS.out _).mono ?_
  rintro x w5 ⟨rfl, hbw⟩
  have KX := Lib.hid ((hbw.block w4.heap.size (by simp)).trans (World.alloc_heap_new w4 (.cells #[.int .i64 op, .int .i64 r, .int .i64 x, .int .i64 y, .int .i64 m] 27)))
  have K0y := Lib.hid ((hbw.block w.heap.size (by simp; omega)).trans K0x.out)
  have K1y := Lib.hid ((hbw.block (w.heap.size + 1) (by simp; omega)).trans K1x.out)
  have HBy := Lib.hid (belowS hbw HBx.out)
  have hz5 : w4.heap.size + 1 ≤ w5.heap.size := by have := hbw.size; simpa using this
  obtain ⟨gx, hgx⟩ : ∃ gx, gx = w4.heap.size := ⟨_, rfl⟩
  rw [← hgx] at KX hz hz5 ⊢
  clear hbw K0 K1 HB K0x K1x HBx HDS hgx
  have x0 := cellOf KX.out 0
  simp at x0
  have hzx : gx < w5.heap.size := by omega
  have hzy : gx < w5.heap.size + 1 := by omega
  go_wp2_with (first | refine alC rfl rfl ?_ | refine stN rfl _ _ rfl _ rfl rfl zs hld rfl ?_ | (go_at_call 37; refine hold_ ?_))
  intro _
  refine (HFM.out _).mono ?_
  rintro q w7 ⟨rfl, hbw⟩
  have K0 := Lib.hid ((hbw.block w.heap.size (by simp; omega)).trans ((Below.heap_alloc w5 _ w.heap.size (by omega)).trans K0y.out))
  have K1 := Lib.hid ((hbw.block (w.heap.size + 1) (by simp; omega)).trans ((Below.heap_alloc w5 _ (w.heap.size + 1) (by omega)).trans K1y.out))
  have KX' := Lib.hid ((hbw.block gx (by simp; omega)).trans ((Below.heap_alloc w5 _ gx (by omega)).trans KX.out))
  have HB := Lib.hid (belowS hbw (HBy.out.alloc (by omega) _))
  have hz7 : gx + 1 ≤ w7.heap.size := by have := hbw.size; simp at this; omega
  clear hbw x0 hzx hzy K0y K1y KX HBy HFM
  have KX := KX'
  clear KX'
  have x0 := cellOf KX.out 0
  have x1 := cellOf KX.out 1
  have x2 := cellOf KX.out 2
  have x3 := cellOf KX.out 3
  have x4 := cellOf KX.out 4
  simp at x0 x1 x2 x3 x4
  have hzx : gx < w7.heap.size := by omega
  have hz0 : w.heap.size < w7.heap.size := by omega
  have cpc := cellC K0.out hl0 32 (by omega)
  rw [hpc] at cpc
  go_wp2
  refine wp_region_held_drew (S := fun w' => w' = w7.drew) (by kernel_rfl) rfl (fun hHeld => ?_)
  refine rh_take (i := 0) (k := 96) (v := ?_) rfl rfl (by kernel_rfl) (by kernel_rfl) (by kernel_rfl) (fun _ _ _ h => h) (Or.inl ⟨by rfl, ?_⟩) hHeld ?_
  rotate_left
  · (intro w hSw; obtain ⟨-⟩ := hSw; go_simp; try with_reducible rfl)
  simp only [Act.put, List.setIfInBounds_toArray, List.set_cons_zero, List.set_cons_succ]
  refine rh_take (i := 1) (k := 97) (v := ?_) rfl rfl (by kernel_rfl) (by kernel_rfl) (by kernel_rfl) (fun _ _ _ h => h) (Or.inl ⟨by rfl, ?_⟩) hHeld ?_
  rotate_left
  · (intro w hSw; obtain ⟨-⟩ := hSw; go_simp; try with_reducible rfl)
  simp only [Act.put, List.setIfInBounds_toArray, List.set_cons_zero, List.set_cons_succ]
  refine rh_take (i := 2) (k := 98) (v := ?_) rfl rfl (by kernel_rfl) (by kernel_rfl) (by kernel_rfl) (fun _ _ _ h => h) (Or.inl ⟨by rfl, ?_⟩) hHeld ?_
  rotate_left
  · (intro w hSw; obtain ⟨-⟩ := hSw; go_simp; try with_reducible rfl)
  simp only [Act.put, List.setIfInBounds_toArray, List.set_cons_zero, List.set_cons_succ]
  refine rh_take (i := 3) (k := 99) (v := undef) rfl rfl (by kernel_rfl) (by kernel_rfl) (by kernel_rfl) (fun _ _ _ h => h) (Or.inr ⟨by rfl, rfl⟩) hHeld ?_
  simp only [Act.put, List.setIfInBounds_toArray, List.set_cons_zero, List.set_cons_succ]
  refine rh_take (i := 4) (k := 100) (v := undef) rfl rfl (by kernel_rfl) (by kernel_rfl) (by kernel_rfl) (fun _ _ _ h => h) (Or.inr ⟨by rfl, rfl⟩) hHeld ?_
  simp only [Act.put, List.setIfInBounds_toArray, List.set_cons_zero, List.set_cons_succ]
  refine rh_take (i := 5) (k := 101) (v := undef) rfl rfl (by kernel_rfl) (by kernel_rfl) (by kernel_rfl) (fun _ _ _ h => h) (Or.inr ⟨by rfl, rfl⟩) hHeld ?_
  simp only [Act.put, List.setIfInBounds_toArray, List.set_cons_zero, List.set_cons_succ]
  refine rh_take (i := 6) (k := 102) (v := undef) rfl rfl (by kernel_rfl) (by kernel_rfl) (by kernel_rfl) (fun _ _ _ h => h) (Or.inr ⟨by rfl, rfl⟩) hHeld ?_
  simp only [Act.put, List.setIfInBounds_toArray, List.set_cons_zero, List.set_cons_succ]
  refine rh_take (i := 7) (k := 103) (v := undef) rfl rfl (by kernel_rfl) (by kernel_rfl) (by kernel_rfl) (fun _ _ _ h => h) (Or.inr ⟨by rfl, rfl⟩) hHeld ?_
  simp only [Act.put, List.setIfInBounds_toArray, List.set_cons_zero, List.set_cons_succ]
  refine rh_take (i := 8) (k := 104) (v := undef) rfl rfl (by kernel_rfl) (by kernel_rfl) (by kernel_rfl) (fun _ _ _ h => h) (Or.inr ⟨by rfl, rfl⟩) hHeld ?_
  simp only [Act.put, List.setIfInBounds_toArray, List.set_cons_zero, List.set_cons_succ]
  refine rh_take (i := 9) (k := 105) (v := undef) rfl rfl (by kernel_rfl) (by kernel_rfl) (by kernel_rfl) (fun _ _ _ h => h) (Or.inr ⟨by rfl, rfl⟩) hHeld ?_
  simp only [Act.put, List.setIfInBounds_toArray, List.set_cons_zero, List.set_cons_succ]
  refine rh_take (i := 10) (k := 106) (v := undef) rfl rfl (by kernel_rfl) (by kernel_rfl) (by kernel_rfl) (fun _ _ _ h => h) (Or.inr ⟨by rfl, rfl⟩) hHeld ?_
  simp only [Act.put, List.setIfInBounds_toArray, List.set_cons_zero, List.set_cons_succ]
  refine rh_take (i := 11) (k := 107) (v := undef) rfl rfl (by kernel_rfl) (by kernel_rfl) (by kernel_rfl) (fun _ _ _ h => h) (Or.inr ⟨by rfl, rfl⟩) hHeld ?_
  simp only [Act.put, List.setIfInBounds_toArray, List.set_cons_zero, List.set_cons_succ]
  refine rh_take (i := 12) (k := 108) (v := undef) rfl rfl (by kernel_rfl) (by kernel_rfl) (by kernel_rfl) (fun _ _ _ h => h) (Or.inr ⟨by rfl, rfl⟩) hHeld ?_
  simp only [Act.put, List.setIfInBounds_toArray, List.set_cons_zero, List.set_cons_succ]
  refine rh_take (i := 13) (k := 109) (v := undef) rfl rfl (by kernel_rfl) (by kernel_rfl) (by kernel_rfl) (fun _ _ _ h => h) (Or.inr ⟨by rfl, rfl⟩) hHeld ?_
  simp only [Act.put, List.setIfInBounds_toArray, List.set_cons_zero, List.set_cons_succ]
  refine rh_take (i := 14) (k := 110) (v := undef) rfl rfl (by kernel_rfl) (by kernel_rfl) (by kernel_rfl) (fun _ _ _ h => h) (Or.inr ⟨by rfl, rfl⟩) hHeld ?_
  simp only [Act.put, List.setIfInBounds_toArray, List.set_cons_zero, List.set_cons_succ]
  refine rh_take (i := 15) (k := 111) (v := undef) rfl rfl (by kernel_rfl) (by kernel_rfl) (by kernel_rfl) (fun _ _ _ h => h) (Or.inr ⟨by rfl, rfl⟩) hHeld ?_
  simp only [Act.put, List.setIfInBounds_toArray, List.set_cons_zero, List.set_cons_succ]
  refine rh_take (i := 16) (k := 112) (v := ?_) rfl rfl (by kernel_rfl) (by kernel_rfl) (by kernel_rfl) (fun _ _ _ h => h) (Or.inl ⟨by rfl, ?_⟩) hHeld ?_
  rotate_left
  · (intro w hSw; obtain ⟨-⟩ := hSw; go_simp; try with_reducible rfl)
  simp only [Act.put, List.setIfInBounds_toArray, List.set_cons_zero, List.set_cons_succ]
  refine rh_take (i := 17) (k := 95) (v := ?_) rfl rfl (by kernel_rfl) (by kernel_rfl) (by kernel_rfl) (fun _ _ _ h => h) (Or.inl ⟨by rfl, ?_⟩) hHeld ?_
  rotate_left
  · (intro w hSw; obtain ⟨-⟩ := hSw; go_simp; try with_reducible rfl)
  simp only [Act.put, List.setIfInBounds_toArray, List.set_cons_zero, List.set_cons_succ]
  refine wpAnyH_done (by kernel_rfl) ?_ _
  clear hHeld
  have K0' := Lib.hid (show w7.drew.heap[w.heap.size]? = _ from K0.out)
  have K1' := Lib.hid (show w7.drew.heap[w.heap.size + 1]? = _ from K1.out)
  have KX' := Lib.hid (show w7.drew.heap[gx]? = _ from KX.out)
  have HB' := Lib.hid HB.out.drew
  have hz8 : gx + 1 ≤ w7.drew.heap.size := hz7
  clear x0 x1 x2 x3 x4 cpc K0 K1 KX HB hz7 hzx hz0
  generalize w7.drew = w8 at *
  have K0 := K0'
  have K1 := K1'
  have KX := KX'
  have HB := HB'
  clear K0' K1' KX' HB'
  have x0 := cellOf KX.out 0
  have x1 := cellOf KX.out 1
  have x2 := cellOf KX.out 2
  have x3 := cellOf KX.out 3
  have x4 := cellOf KX.out 4
  simp at x0 x1 x2 x3 x4
  have cpc := cellC K0.out hl0 32 (by omega)
  rw [hpc] at cpc
  have hzx : gx < w8.heap.size := by omega
  have hz0 : w.heap.size < w8.heap.size := by omega
  go_wp2_with (first | refine ldC rfl _ rfl _ rfl _ (0, 0) K0.out hl0 ?_ | (go_at_call 39; refine hold_ ?_))
  intro _
  refine (HAC.out _ (HM.out.below HB.out)).mono ?_
  rintro q w9 ⟨rfl, n', hn', hm9, hg9⟩
  have K1' := Lib.hid ((hg9.block (w.heap.size + 1) (by omega) (fun e => by injection e with e; omega)).trans K1.out)
  have HG := Lib.hid (grown_trans (grownB HB.out (some bl)) hg9)
  have HM9 := Lib.hid hm9
  clear x0 x1 x2 x3 x4 cpc hzx hz0 K0 K1 KX HB hm9 hg9 HAC
  go_wp2_with (refine stC rfl _ _ rfl _ _ rfl rfl zs K1'.out hl3 rfl ?_)
  refine retC2 rfl rfl (setRow_heap _ _ _ _ _ _ K1'.out) hl3 rfl rfl ⟨rfl, n', hn', mem_setRow HM9.out (by omega) (by omega) _, grown_setRow HG.out (by omega) _⟩
end Go.Proofs.Ytononmcodecmaaa.Cp
end
section
/- Layer 4: the machine (part KJ). -/
namespace Go.Proofs.Ytononmcodecmaaa.Cp
open Go.RowKit Go.Maps Go.Proofs Go.Proofs.YtononmcodecmaaaW Go.Proofs.YtononmcodecmaaaW.PrintWords
set_option maxRecDepth 100000
set_option linter.unusedVariables false
set_option linter.unusedSimpArgs false
attribute [local go_sem] cv_set cv_at cv_size
theorem decT_ld (f : Nat → Nat) (a : Nat) (hf : ∀ x, f x < 256) (op rd x y m e : Int) (h : decT (Mm.ld f a 4) = (op, rd, x, y, m, e)) : (e = 0 ∧ Q.rightv op rd x y m = true) ∨ e = 20 := by
 have hld := Mm.ld_lt f a 4 hf
 generalize Mm.ld f a 4 = v at *
 have hv : v < 4294967296 := by simpa using hld
 have hfa := (decT_facts v hv).2
 rw [h] at hfa
 exact hfa
theorem stepv_eq (c : List Int) (f : Nat → Nat) (op rd a b m e : Int) (hmis : reg (c.set 0 0) 32 % 4 = 0) (hdec : decT (Mm.ld f (reg (c.set 0 0) 32).toNat 4) = (op, rd, a, b, m, e)) :
  stepv c f = if e ≠ 0 then (c.set 0 0, f, 3) else if (doesv (c.set 0 0) op rd a b m).2 = true then ((doesv (c.set 0 0) op rd a b m).1, f, 0) else jumpv (c.set 0 0) f op rd a b m := by
 unfold stepv
 rw [if_neg (by omega), hdec]
theorem Step_calls (c : List Int) (hc : Wc c) (p bl n : Nat) (f : Nat → Nat) (w : World) (hM : Mm.MemAt w p bl n f) (hn : n < 80000000) :
  Calls Try.prog 15 #[.agg (cv c), .pointer (some ⟨p, 0, none⟩)] w fun e w' => e = .returned (.tuple #[.agg (cv (stepv c f).1), .int .i64 (stepv c f).2.2]) ∧ Post w w' p bl n (stepv c f).2.1 := by
 by_cases hmis : reg (c.set 0 0) 32 % 4 = 0
 ·obtain ⟨z, hdec⟩ : ∃ z, decT (Mm.ld f (reg (c.set 0 0) 32).toNat 4) = z := ⟨_, rfl⟩
  obtain ⟨op, rd, a, b, m, e⟩ := z
  rw [stepv_eq c f op rd a b m e hmis hdec]
  have hfa := decT_ld f (reg (c.set 0 0) 32).toNat hM.map.2.1 op rd a b m e hdec
  by_cases he : e = 0
  ·rw [if_neg (by omega)]
   have hr : Q.rightv op rd a b m = true := by
    rcases hfa with h | h
    ·exact h.2
    ·omega
   obtain ⟨z, hd⟩ : ∃ z, doesv (c.set 0 0) op rd a b m = z := ⟨_, rfl⟩
   obtain ⟨d, i⟩ := z
   rw [hd]
   cases i
   ·rw [if_neg (by simp)]
    obtain ⟨r, x, y, hrd, hra, hrb, hr1, hx, hy⟩ := right_regs op rd a b m hr
    unfold jumpv
    by_cases h2 : op = 2
    ·rw [if_pos h2, hrd, Int.toNat_natCast]
     exact Step_jal c hc p bl n f w hM hn hmis op rd a b m e hdec he r x y hrd hra hrb hr1 hx hy d hd h2
    rw [if_neg h2]
    by_cases h3 : op = 3
    ·rw [if_pos h3, hrd, hra, Int.toNat_natCast, Int.toNat_natCast]
     exact Step_jalr c hc p bl n f w hM hn hmis op rd a b m e hdec he r x y hrd hra hrb hr1 hx hy d hd h3
    rw [if_neg h3]
    by_cases hB : Q.frm op = 66
    ·rw [if_pos hB, hra, hrb, Int.toNat_natCast, Int.toNat_natCast]
     cases htk : takenv op (reg (c.set 0 0) x) (reg (c.set 0 0) y)
     ·rw [if_neg (by simp)]
      exact Step_brfalse c hc p bl n f w hM hn hmis op rd a b m e hdec he r x y hrd hra hrb hr1 hx hy d hd hB h2 h3 htk
     ·rw [if_pos rfl]
      exact Step_brtrue c hc p bl n f w hM hn hmis op rd a b m e hdec he r x y hrd hra hrb hr1 hx hy d hd hB h2 h3 htk
    rw [if_neg hB]
    by_cases h45 : op = 45
    ·rw [if_pos h45]
     exact Step_ecall c hc p bl n f w hM hn hmis op rd a b m e hdec he r x y hrd hra hrb hr1 hx hy d hd h45
    rw [if_neg h45]
    by_cases h46 : op = 46
    ·rw [if_pos h46]
     exact Step_ebreak c hc p bl n f w hM hn hmis op rd a b m e hdec he r x y hrd hra hrb hr1 hx hy d hd h46
    rw [if_neg h46]
    have hno := does_no (c.set 0 0) op rd a b m hr (by rw [hd]) h2 h3 hB h45 h46
    have := Step_acc c hc p bl n f w hM hn hmis op rd a b m e hdec he r x y hrd hra hrb hr1 hx hy d hd hno
    rw [← hrd, ← hra, ← hrb] at this
    exact this
   ·rw [if_pos rfl]
    exact Step_does c hc p bl n f w hM hn hmis op rd a b m e hdec he d hd
  ·rw [if_pos he]
   exact Step_ill c hc p bl n f w hM hn hmis op rd a b m e hdec he
 ·unfold stepv
  rw [if_pos hmis]
  exact Step_mis c hc p bl n f w hM hn hmis
end Go.Proofs.Ytononmcodecmaaa.Cp
end
section
/- Layer 4: the machine (part KK). -/
namespace Go.Proofs.Ytononmcodecmaaa.Cp
open Go.RowKit Go.Maps Go.Proofs Go.Proofs.YtononmcodecmaaaW Go.Proofs.YtononmcodecmaaaW.PrintWords
set_option maxRecDepth 100000
set_option linter.unusedVariables false
set_option linter.unusedSimpArgs false
attribute [local go_sem] cv_set cv_at cv_size
def callv (c : List Int) : List Int := [reg c 10, reg c 11, reg c 12, reg c 13, reg c 14, reg c 15, reg c 16, reg c 17]
def z8 : List Int := [0, 0, 0, 0, 0, 0, 0, 0]
theorem infoK : (Try.prog.info? 67).map (·.size) = some 8 := by kernel_rfl
theorem infoU : (Try.prog.info? 22).map (·.size) = some 1 := by kernel_rfl
theorem cv_z8 : cv z8 = #[.int .u32 0, .int .u32 0, .int .u32 0, .int .u32 0, .int .u32 0, .int .u32 0, .int .u32 0, .int .u32 0] := rfl
theorem ldK {ops : Array Oper} {rest : List Oper} {o : Oper} {a : Act} {w : World} {Q : Exit → Act → World → Prop} (hgd : o.guard = none) (x : Operand) (ho : o.op = .load 67 x)
  (g : Nat) (hx : a.eval x = .pointer (some ⟨g, 0, none⟩)) (c : List Int) (fr : Nat × Nat) (hg : w.heap[g]? = some (.cells (cv c) 67 fr)) (hc : c.length = 8)
  (h : wpList Try.prog ops Q rest (a.put o.dst (.agg (cv c))) w) : wpList Try.prog ops Q (o :: rest) a w :=
 wpList_load_row hgd _ x ho g hx _ _ fr _ hg Try.underlying67 rfl (infoK.trans (by rw [cv_size, hc])) h
theorem stK {ops : Array Oper} {rest : List Oper} {o : Oper} {a : Act} {w : World} {Q : Exit → Act → World → Prop} (hgd : o.guard = none) (x y : Operand) (ho : o.op = .store 67 x y)
  (g : Nat) (c : List Int) (hx : a.eval x = .pointer (some ⟨g, 0, none⟩)) (hy : a.eval y = .agg (cv c)) (old : List Int) (hg : w.heap[g]? = some (.cells (cv old) 67 (0, 0)))
  (hc : c.length = 8) (ho2 : old.length = 8) (h : wpList Try.prog ops Q rest (a.put o.dst undef) (w.setRow g (cv c))) : wpList Try.prog ops Q (o :: rest) a w :=
 wpList_store_row hgd _ x y ho g _ hx hy _ _ hg (infoK.trans (by rw [cv_size, hc])) (by rw [cv_size, cv_size, hc, ho2]) (cv_one c) h
theorem retK {fn : Func} {R : Ending → World → Prop} {a : Act} {w : World} {p : Tmp} {g : Nat} {c : List Int} {fr : Nat × Nat} (h : fn.results = #[.cell p 67])
  (hp : a.tmps.getD p undef = .pointer (some ⟨g, 0, none⟩)) (hg : w.heap[g]? = some (.cells (cv c) 67 fr)) (hc : c.length = 8) (hd : a.defers = []) (hR : R (.returned (.agg (cv c))) w) : bodyPost Try.prog fn R .ret a w := by
 refine bodyPost_ret ?_ hd hR
 have hp' : a.tmps[p]?.getD undef = .pointer (some ⟨g, 0, none⟩) := by simpa using hp
 have hld : (loadVar 67 ⟨g, 0, none⟩).run Try.prog w = .ok (.agg (cv c)) w := run_loadVar_row _ _ _ _ _ _ _ hg Try.underlying67 rfl (infoK.trans (by rw [cv_size, hc]))
 simp [results, h, hp', asAddr, hld]
theorem call_calls (c : List Int) (hc : Wc c) (w : World) : Calls Try.prog 32 #[.agg (cv c)] w fun e w' => e = .returned (.agg (cv (callv c))) ∧ Below w.heap.size w w' := by
 have hl := hc.len
 have hB : Below w.heap.size w ((((w.alloc (.cells (cv c) 25)).alloc (.cells (cv z8) 67)).alloc (.cells (cv z8) 67)).drew) := ((((Below.refl _ w).alloc (Nat.le_refl _) _).alloc (by simp) _).alloc (by simp; omega) _).drew
 have k0 := heap3_0 w (.cells (cv c) 25) (.cells (cv z8) 67) (.cells (cv z8) 67)
 have k1 := heap3_1 w (.cells (cv c) 25) (.cells (cv z8) 67) (.cells (cv z8) 67)
 have k2 := heap3_2 w (.cells (cv c) 25) (.cells (cv z8) 67) (.cells (cv z8) 67)
 have K0 := Lib.hid (show ((((w.alloc (.cells (cv c) 25)).alloc (.cells (cv z8) 67)).alloc (.cells (cv z8) 67)).drew).heap[w.heap.size]? = _ from k0)
 have K1 := Lib.hid (show ((((w.alloc (.cells (cv c) 25)).alloc (.cells (cv z8) 67)).alloc (.cells (cv z8) 67)).drew).heap[w.heap.size + 1]? = _ from k1)
 have K2 := Lib.hid (show ((((w.alloc (.cells (cv c) 25)).alloc (.cells (cv z8) 67)).alloc (.cells (cv z8) 67)).drew).heap[w.heap.size + 2]? = _ from k2)
 have HB := Lib.hid hB
 clear hB k0 k1 k2
 go_enter Try.func32, Try.ntmps32
 go_wp2
 refine wp_region_held_drew (S := fun w' => True) (by kernel_rfl) trivial (fun hHeld => ?_)
 refine rh_take (i := 0) (k := 4) (v := ?_) rfl rfl (by kernel_rfl) (by kernel_rfl) (by kernel_rfl) (fun _ _ _ h => h) (Or.inl ⟨by rfl, ?_⟩) hHeld ?_
 rotate_left
 ·(intro w hSw; obtain ⟨-⟩ := hSw; go_simp; try with_reducible rfl)
 simp only [Act.put, List.setIfInBounds_toArray, List.set_cons_zero, List.set_cons_succ]
 refine rh_take (i := 1) (k := 5) (v := ?_) rfl rfl (by kernel_rfl) (by kernel_rfl) (by kernel_rfl) (fun _ _ _ h => h) (Or.inl ⟨by rfl, ?_⟩) hHeld ?_
 rotate_left
 ·(intro w hSw; obtain ⟨-⟩ := hSw; go_simp; try with_reducible rfl)
 simp only [Act.put, List.setIfInBounds_toArray, List.set_cons_zero, List.set_cons_succ]
 refine rh_take (i := 2) (k := 6) (v := ?_) rfl rfl (by kernel_rfl) (by kernel_rfl) (by kernel_rfl) (fun _ _ _ h => h) (Or.inl ⟨by rfl, ?_⟩) hHeld ?_
 rotate_left
 ·(intro w hSw; obtain ⟨-⟩ := hSw; go_simp; try with_reducible rfl)
 simp only [Act.put, List.setIfInBounds_toArray, List.set_cons_zero, List.set_cons_succ]
 refine rh_take (i := 3) (k := 7) (v := ?_) rfl rfl (by kernel_rfl) (by kernel_rfl) (by kernel_rfl) (fun _ _ _ h => h) (Or.inl ⟨by rfl, ?_⟩) hHeld ?_
 rotate_left
 ·(intro w hSw; obtain ⟨-⟩ := hSw; go_simp; try with_reducible rfl)
 simp only [Act.put, List.setIfInBounds_toArray, List.set_cons_zero, List.set_cons_succ]
 rw [← cv_z8]
 generalize ((((w.alloc (.cells (cv c) 25)).alloc (.cells (cv z8) 67)).alloc (.cells (cv z8) 67)).drew) = w3 at *
 have hsrc : ∀ j v, ((callv c).map (Value.int .u32))[j]? = some v → w3.cell? ((⟨w.heap.size, 10, none⟩ : Addr).add j) = some v := by
  intro j v hv
  have e : (⟨w.heap.size, 10, none⟩ : Addr).add j = ⟨w.heap.size, 10 + j, none⟩ := by unfold Addr.add; split <;> simp_all
  have hj : j < 8 := by
   by_cases h : j < 8
   ·exact h
   ·rw [List.getElem?_eq_none (by simp [callv]; omega)] at hv
    cases hv
  rw [e, cellC K0.out hl (10 + j) (by omega)]
  rcases (show j = 0 ∨ j = 1 ∨ j = 2 ∨ j = 3 ∨ j = 4 ∨ j = 5 ∨ j = 6 ∨ j = 7 by omega) with rfl | rfl | rfl | rfl | rfl | rfl | rfl | rfl <;> exact hv
 have hrun := run_copy_row Try.prog w3 32 32 3 22 (w.heap.size + 2) 0 8 8 ⟨w.heap.size, 10, none⟩ 22 22 (cv z8) 67 ((callv c).map (Value.int .u32)) Try.underlying32 infoU K2.out rfl hsrc (by simp [callv, cv_size, z8]) (by intro v hv; simp only [List.mem_map] at hv; obtain ⟨x, _, rfl⟩ := hv; rfl)
 rw [show ((cv z8).toList.take 0 ++ (callv c).map (Value.int .u32) ++ (cv z8).toList.drop (0 + ((callv c).map (Value.int .u32)).length)).toArray = cv (callv c) by simp [cv, z8, callv]] at hrun
 refine wpAnyH_ready (rs := [4]) (by kernel_rfl) (by simp) ?_
 refine AllReadyH.cons (i := 4) rfl (fun K hK => ?_) AllReadyH.nil
 go_simp
 refine hK.out _ _ trivial (fun hHeld2 => ?_)
 refine wpAnyH_done (by kernel_rfl) ?_ _
 clear hK hHeld hHeld2 hsrc hrun
 have K2q := Lib.hid (setRow_heap w3 (w.heap.size + 2) _ (cv (callv c)) _ _ K2.out)
 have K1q := Lib.hid ((setRow_other w3 (w.heap.size + 2) (w.heap.size + 1) (cv (callv c)) (by omega)).trans K1.out)
 go_wp2_with (first | refine ldK rfl _ rfl _ rfl _ (0, 0) K2q.out rfl ?_ | refine stK rfl _ _ rfl _ _ rfl rfl z8 K1q.out rfl rfl ?_)
 refine retK rfl rfl (setRow_heap _ _ _ _ _ _ K1q.out) rfl rfl ⟨rfl, ?_⟩
 exact below_setRow (below_setRow HB.out (by omega) _) (by omega) _
end Go.Proofs.Ytononmcodecmaaa.Cp
end
section
/- Layer 4: the machine (part KL). -/
namespace Go.Proofs.Ytononmcodecmaaa.Cp
open Go.RowKit Go.Maps Go.Proofs Go.Proofs.YtononmcodecmaaaW Go.Proofs.YtononmcodecmaaaW.PrintWords
set_option maxRecDepth 100000
set_option linter.unusedVariables false
set_option linter.unusedSimpArgs false
attribute [local go_sem] cv_set cv_at cv_size
def gl (cs : List (List Int)) (j : Nat) (r : List Int × (Nat → Nat) × List (List Int) × Int × Nat) : List Int × (Nat → Nat) × List (List Int) × Int × Nat := (r.1, r.2.1, cs ++ r.2.2.1, r.2.2.2.1, r.2.2.2.2 + j)
theorem gl_gl (cs ds : List (List Int)) (i j : Nat) (r : List Int × (Nat → Nat) × List (List Int) × Int × Nat) : gl cs j (gl ds i r) = gl (cs ++ ds) (j + i) r := by
 simp only [gl, List.append_assoc, Nat.add_assoc, Nat.add_comm i j]
def runv : Nat → List Int → (Nat → Nat) → List Int → List Int × (Nat → Nat) × List (List Int) × Int × Nat
 | 0, c, f, _ => (c, f, [], 6, 0)
 | k + 1, c, f, ans =>
  if (stepv c f).2.2 = 1 then
   match ans with
   | [] => ((stepv c f).1, (stepv c f).2.1, [callv (stepv c f).1], 1, 1)
   | a :: rest => gl [callv (stepv c f).1] 1 (runv k ((stepv c f).1.set 10 a) (stepv c f).2.1 rest)
  else if (stepv c f).2.2 ≠ 0 then ((stepv c f).1, (stepv c f).2.1, [], (stepv c f).2.2, 1)
  else gl [] 1 (runv k (stepv c f).1 (stepv c f).2.1 ans)
theorem runv_succ (k : Nat) (c : List Int) (f : Nat → Nat) (ans : List Int) (d : List Int) (g : Nat → Nat) (e : Int) (h : stepv c f = (d, g, e)) : runv (k + 1) c f ans =
  if e = 1 then (match ans with | [] => (d, g, [callv d], 1, 1) | a :: rest => gl [callv d] 1 (runv k (d.set 10 a) g rest)) else if e ≠ 0 then (d, g, [], e, 1) else gl [] 1 (runv k d g ans) := by
 have e0 : runv (k + 1) c f ans = (fun z : List Int × (Nat → Nat) × Int => if z.2.2 = 1 then (match ans with | [] => (z.1, z.2.1, [callv z.1], 1, 1) | a :: rest => gl [callv z.1] 1 (runv k (z.1.set 10 a) z.2.1 rest)) else if z.2.2 ≠ 0 then (z.1, z.2.1, [], z.2.2, 1) else gl [] 1 (runv k z.1 z.2.1 ans)) (stepv c f) := rfl
 rw [e0, h]
theorem run_on (k : Nat) (c : List Int) (f : Nat → Nat) (ans : List Int) (d : List Int) (g : Nat → Nat) (h : stepv c f = (d, g, 0)) : runv (k + 1) c f ans = gl [] 1 (runv k d g ans) := by
 rw [runv_succ k c f ans d g 0 h, if_neg (by decide), if_neg (by decide)]
theorem run_stop (k : Nat) (c : List Int) (f : Nat → Nat) (ans : List Int) (d : List Int) (g : Nat → Nat) (e : Int) (h : stepv c f = (d, g, e)) (h0 : e ≠ 0) (h1 : e ≠ 1) : runv (k + 1) c f ans = (d, g, [], e, 1) := by
 rw [runv_succ k c f ans d g e h, if_neg h1, if_pos h0]
theorem run_last (k : Nat) (c : List Int) (f : Nat → Nat) (d : List Int) (g : Nat → Nat) (h : stepv c f = (d, g, 1)) : runv (k + 1) c f [] = (d, g, [callv d], 1, 1) := by
 rw [runv_succ k c f [] d g 1 h, if_pos rfl]
theorem run_call (k : Nat) (c : List Int) (f : Nat → Nat) (a : Int) (rest : List Int) (d : List Int) (g : Nat → Nat) (h : stepv c f = (d, g, 1)) : runv (k + 1) c f (a :: rest) = gl [callv d] 1 (runv k (d.set 10 a) g rest) := by
 rw [runv_succ k c f (a :: rest) d g 1 h, if_pos rfl]
theorem Wc.setl {c : List Int} (h : Wc c) (rd : Nat) (v : Int) (hv : 0 ≤ v ∧ v < 4294967296) : Wc (setl c rd v) := by
 unfold Cp.setl
 split
 ·exact h
 ·exact h.set _ _ hv
theorem acc_rng (v k : Nat) (sg : Bool) (hl : v < 256 ^ k) (hk : k = 1 ∨ k = 2 ∨ k = 4) : 0 ≤ ((if sg = true then Q.sgn v (8 * (k : Int)) else v : Nat) : Int) ∧ ((if sg = true then Q.sgn v (8 * (k : Int)) else v : Nat) : Int) < 4294967296 := by
 have hp : 256 ^ k ≤ 4294967296 := by rcases hk with rfl | rfl | rfl <;> decide
 have hv : v < 4294967296 := by omega
 have hs := Q.sgn_lt v hv (8 * (k : Int))
 cases sg
 ·rw [if_neg (by decide)]; omega
 ·rw [if_pos rfl]; omega
theorem Wc.access {c : List Int} (h : Wc c) (f : Nat → Nat) (hf : ∀ x, f x < 256) (op rd a b m : Int) : Wc (accessv c f op rd a b m).1 := by
 unfold accessv
 split
 ·exact h
 split
 ·exact h.set _ _ (mod_rng _)
 ·exact h.rset _ _ (acc_rng _ _ _ (Mm.ld_lt f _ _ hf) (sizev_k op))
theorem Wc.jump {c : List Int} (h0 : Wc c) (f : Nat → Nat) (hf : ∀ x, f x < 256) (op rd a b m : Int) : Wc (jumpv c f op rd a b m).1 := by
 unfold jumpv
 split
 ·exact (h0.setl _ _ (mod_rng _)).set _ _ (mod_rng _)
 split
 ·refine (h0.setl _ _ (mod_rng _)).set _ _ ?_
  have := mod_rng (reg c a.toNat + m)
  omega
 split
 ·refine h0.set _ _ ?_
  split
  ·exact mod_rng _
  ·exact mod_rng _
 split
 ·exact h0.set _ _ (mod_rng _)
 split
 ·exact h0
 ·exact h0.access f hf _ _ _ _ _
def stepw (c : List Int) (f : Nat → Nat) (z : Int × Int × Int × Int × Int × Int) : List Int × (Nat → Nat) × Int :=
 if z.2.2.2.2.2 ≠ 0 then (c, f, 3)
 else if (doesv c z.1 z.2.1 z.2.2.1 z.2.2.2.1 z.2.2.2.2.1).2 = true then ((doesv c z.1 z.2.1 z.2.2.1 z.2.2.2.1 z.2.2.2.2.1).1, f, 0)
 else jumpv c f z.1 z.2.1 z.2.2.1 z.2.2.2.1 z.2.2.2.2.1
theorem stepv_w (c : List Int) (f : Nat → Nat) (h : reg (c.set 0 0) 32 % 4 = 0) : stepv c f = stepw (c.set 0 0) f (decT (Mm.ld f (reg (c.set 0 0) 32).toNat 4)) := by
 obtain ⟨z, hz⟩ : ∃ z, decT (Mm.ld f (reg (c.set 0 0) 32).toNat 4) = z := ⟨_, rfl⟩
 obtain ⟨op, rd, a, b, m, e⟩ := z
 rw [stepv_eq c f op rd a b m e h hz, hz]
 rfl
theorem stepv_m (c : List Int) (f : Nat → Nat) (h : reg (c.set 0 0) 32 % 4 ≠ 0) : stepv c f = (c.set 0 0, f, 4) := by
 unfold stepv
 rw [if_pos h]
theorem Wc.step {c : List Int} (h : Wc c) (f : Nat → Nat) (hf : ∀ x, f x < 256) : Wc (stepv c f).1 := by
 have h0 := h.set 0 0 (by omega)
 by_cases hm : reg (c.set 0 0) 32 % 4 = 0
 ·rw [stepv_w c f hm]
  generalize decT (Mm.ld f (reg (c.set 0 0) 32).toNat 4) = z
  obtain ⟨op, rd, a, b, m, e⟩ := z
  unfold stepw
  simp only
  split
  ·exact h0
  split
  ·exact h0.does _ _ _ _ _
  ·exact h0.jump f hf _ _ _ _ _
 ·rw [stepv_m c f hm]
  exact h0
end Go.Proofs.Ytononmcodecmaaa.Cp
end
section
/- Layer 4: the machine (part KM). -/
namespace Go.Proofs.Ytononmcodecmaaa.Cp
open Go.RowKit Go.Maps Go.Proofs Go.Proofs.YtononmcodecmaaaW Go.Proofs.YtononmcodecmaaaW.PrintWords
set_option maxRecDepth 100000
set_option linter.unusedVariables false
set_option linter.unusedSimpArgs false
attribute [local go_sem] cv_set cv_at cv_size
def kvs (l : List (List Int)) : List Value := l.flatMap fun k => k.map (Value.int .u32)
theorem kvs_append (l m : List (List Int)) : kvs (l ++ m) = kvs l ++ kvs m := List.flatMap_append
abbrev OwnK (w : World) (base : Nat) (v : Value) (l : List (List Int)) : Prop := w.ownsRow base 67 8 v l.length (kvs l)
theorem infoK3 : (Try.prog.info? 67).map (fun i => (i.zero, i.size, i.bytes)) = some (some (.agg (cv z8)), 8, 32) := by kernel_rfl
theorem cells_new (w : World) (cs : Array Value) (t : TypeId) : ∀ j u, cs.toList[j]? = some u → (w.alloc (.cells cs t)).cell? ((⟨w.heap.size, 0, none⟩ : Addr).add j) = some u := Mm.cells_new w cs t
theorem wp_appK {w : World} {ops : Array Oper} {rest : List Oper} {o : Oper} {ac : Act} {Q : Exit → Act → World → Prop} (hg : o.guard = none) (s x : Operand) (hop : o.op = .call { callee := .builtin .append, args := #[s, x], argTypes := #[39, 39] })
  (base : Nat) (v : Value) (l : List (List Int)) (y : List Int) (hy : y.length = 8) (hs : ac.eval s = v) (hown : OwnK w base v l) (cap : Nat) (hx : ac.eval x = .slice (some ⟨w.heap.size, 0, none⟩) 1 cap) (hl : l.length < 100000000) (hbase : base ≤ w.heap.size)
  (hK : ∀ v' w', OwnK w' base v' (l ++ [y]) → w.grownBy w' v.ownBlock → v' ≠ .slice none 0 0 → wpList Try.prog ops Q rest (ac.put o.dst v') w') :
  wpList Try.prog ops Q (o :: rest) ac (w.alloc (.cells (cv y) 67)) := by
 obtain ⟨i0, hi, hz0, hz1, hz2⟩ := info_parts infoK3
 refine wpList_append_own _ hg s x _ hop base _ i0 _ 8 32 Try.underlying39 hi hz0 hz1 hz2 rfl (by decide) v l.length (kvs l) hs (hown.alloc _) ⟨w.heap.size, 0, none⟩ 1 cap (y.map (Value.int .u32)) hx (by rw [List.length_map, hy]) ?_ (by intro v hv; simp only [List.mem_map] at hv; obtain ⟨x, _, rfl⟩ := hv; rfl) (by unfold maxLen; omega) (by omega) (by simp; omega) ?_
 ·have := cells_new w (cv y) 67
  simpa [cv] using this
 intro v' w' h1 h2 h3
 refine hK v' w' ?_ ((World.grownBy_alloc w _ _).trans h2) (fun e => by have := h3.1 e; omega)
 show w'.ownsRow base _ 8 v' (l ++ [y]).length (kvs (l ++ [y]))
 rw [kvs_append, List.length_append]
 simpa [kvs] using h1
theorem own_optK {w : World} {base : Nat} {v : Value} {l : List (List Int)} (h : OwnK w base v l) : ∃ o cap, v = .slice o l.length cap ∧ (0 < l.length → ∃ g, o = some ⟨g, 0, none⟩) := by
 rcases h.2 with ⟨h1, h2⟩ | ⟨g, cap, cur, e, _⟩
 ·exact ⟨none, 0, by rw [h1, h2], fun h => by omega⟩
 ·exact ⟨_, cap, e, fun _ => ⟨g, rfl⟩⟩
theorem OwnK_lower {w : World} {base base' : Nat} {v : Value} {l : List (List Int)} (h : OwnK w base v l) (hb : base' ≤ base) : OwnK w base' v l := by
 refine ⟨h.1, ?_⟩
 rcases h.2 with hn | ⟨g, cap, cur, e, hbb, rest⟩
 ·exact .inl hn
 ·exact .inr ⟨g, cap, cur, e, Nat.le_trans hb hbb, rest⟩
theorem OwnK.kept' {w w' : World} {base : Nat} {v : Value} {l : List (List Int)} {row : Option Nat} (h : OwnK w base v l) (hg : w.grownBy w' row) (hr : ∀ k, row = some k → k < base) : OwnK w' base v l := by
 refine World.ownsRow.kept h hg ?_
 cases hv : v.ownBlock with
 | none => exact Or.inl rfl
 | some k =>
  refine Or.inr (fun e => ?_)
  have := (World.ownsRow.lt h k hv).1
  have := hr k e.symm
  omega
def AnsAt (w : World) (A : Option Addr) (ans : List Int) : Prop := ∀ i, i < ans.length → ∃ ad, A = some ad ∧ ad.block < w.heap.size ∧ w.cell? (ad.add i) = some (.int .u32 (ans.getD i 0))
theorem cell_block {w : World} {a : Addr} {v : Value} (h : w.cell? a = some v) : ∃ cs t fr, w.heap[a.block]? = some (.cells cs t fr) := by
 unfold World.cell? at h
 split at h
 ·rename_i cs t fr hh
  exact ⟨cs, t, fr, hh⟩
 ·cases h
theorem add_block (ad : Addr) (i : Nat) : (ad.add i).block = ad.block := by unfold Addr.add; split <;> rfl
theorem AnsAt.grown {w w' : World} {A : Option Addr} {ans : List Int} {p bl n : Nat} {f : Nat → Nat} (h : AnsAt w A ans) (hM : Mm.MemAt w p bl n f) (hg : w.grownBy w' (some bl)) : AnsAt w' A ans := by
 intro i hi
 obtain ⟨ad, e, hb, hc⟩ := h i hi
 refine ⟨ad, e, Nat.lt_of_lt_of_le hb hg.size, ?_⟩
 have hne : ad.block ≠ bl := by
  intro e2
  obtain ⟨cs, t, fr, hh⟩ := cell_block hc
  rw [add_block, e2] at hh
  obtain ⟨⟨D, ho, _⟩, _⟩ := hM.map
  obtain ⟨es, clock, hb2, _⟩ := ho
  rw [hb2] at hh
  cases hh
 exact (World.cell?_of_block (by rw [add_block]; exact hg.block ad.block hb (fun e2 => hne (by injection e2)))).trans hc
theorem retC4 {fn : Func} {R : Ending → World → Prop} {a : Act} {w : World} {p q r s : Tmp} {g : Nat} {c : List Int} {fr : Nat × Nat} {v1 v2 v3 : Value} (h : fn.results = #[.cell p 25, .tmp q, .tmp r, .tmp s])
  (hp : a.tmps.getD p undef = .pointer (some ⟨g, 0, none⟩)) (hg : w.heap[g]? = some (.cells (cv c) 25 fr)) (hc : c.length = 33) (h1 : a.tmps.getD q undef = v1) (h2 : a.tmps.getD r undef = v2) (h3 : a.tmps.getD s undef = v3) (hd : a.defers = []) (hR : R (.returned (.tuple #[.agg (cv c), v1, v2, v3])) w) : bodyPost Try.prog fn R .ret a w := by
 refine bodyPost_ret ?_ hd hR
 have hp' : a.tmps[p]?.getD undef = .pointer (some ⟨g, 0, none⟩) := by simpa using hp
 have h1' : a.tmps[q]?.getD undef = v1 := by simpa using h1
 have h2' : a.tmps[r]?.getD undef = v2 := by simpa using h2
 have h3' : a.tmps[s]?.getD undef = v3 := by simpa using h3
 simp [results, h, hp', h1', h2', h3', asAddr, loadC w g c fr hg hc]
structure RunSt (w wx : World) (p bl n F : Nat) (ans : List Int) (T : List Int × (Nat → Nat) × List (List Int) × Int × Nat) (j : Nat) (v : Value) (cn : List Int) (fn : Nat → Nat) (cs : List (List Int)) (nn : Nat) : Prop where
 wc : Wc cn
 c0 : wx.heap[w.heap.size]? = some (.cells (cv cn) 25 (0, 0))
 c1 : wx.heap[w.heap.size + 1]? = some (.cells (cv zs) 25 (0, 0))
 sz : w.heap.size + 2 ≤ wx.heap.size
 own : OwnK wx (w.heap.size + 2) v cs
 mem : Mm.MemAt wx p bl nn fn
 nle : nn ≤ n + 4 * j
 grw : w.grownBy wx (some bl)
 tot : T = gl cs j (runv (F - j) cn fn (ans.drop cs.length))
 len : cs.length ≤ ans.length
 lej : cs.length ≤ j
end Go.Proofs.Ytononmcodecmaaa.Cp
end
section
/- Layer 4: the machine (part KN). -/
namespace Go.Proofs.Ytononmcodecmaaa.Cp
open Go.RowKit Go.Maps Go.Proofs Go.Proofs.YtononmcodecmaaaW Go.Proofs.YtononmcodecmaaaW.PrintWords
set_option maxRecDepth 100000
set_option linter.unusedVariables false
set_option linter.unusedSimpArgs false
attribute [local go_sem] cv_set cv_at cv_size
theorem fold8 (l : List Int) (hl : l.length = 8) : Array.foldl (fun (cs : Array Value) (x : Value × Nat) => cs.setIfInBounds x.snd x.fst) #[Value.int IntKind.u32 0, Value.int IntKind.u32 0, Value.int IntKind.u32 0, Value.int IntKind.u32 0, Value.int IntKind.u32 0, Value.int IntKind.u32 0, Value.int IntKind.u32 0, Value.int IntKind.u32 0] (cv l).zipIdx 0 8 = cv l := by
 obtain ⟨a, b, c, d, e, f, g, h, rfl⟩ : ∃ a b c d e f g h, l = [a, b, c, d, e, f, g, h] := by
  match l, hl with
  | [a, b, c, d, e, f, g, h], _ => exact ⟨a, b, c, d, e, f, g, h, rfl⟩
 simp [cv]
theorem grown_row (w : World) (g : Nat) (cs : Array Value) : w.grownBy (w.setRow g cs) (some g) := ⟨rfl, rfl, rfl, by simp [World.setRow], fun i hi hr => setRow_other _ _ _ _ (fun e => hr (by rw [e]))⟩
theorem size_setRow (w : World) (g : Nat) (cs : Array Value) : (w.setRow g cs).heap.size = w.heap.size := by simp [World.setRow]
structure RunMd (w wx : World) (p bl n F : Nat) (j : Nat) (v : Value) (d : List Int) (g : Nat → Nat) (cs : List (List Int)) (nn : Nat) : Prop where
 wc : Wc d
 c0 : wx.heap[w.heap.size]? = some (.cells (cv d) 25 (0, 0))
 c1 : wx.heap[w.heap.size + 1]? = some (.cells (cv zs) 25 (0, 0))
 sz : w.heap.size + 2 ≤ wx.heap.size
 own : OwnK wx (w.heap.size + 2) v cs
 mem : Mm.MemAt wx p bl nn g
 nle : nn ≤ n + 4 * (j + 1)
 grw : w.grownBy wx (some bl)
theorem RunMd.setC {w wx : World} {p bl n F j : Nat} {v : Value} {d : List Int} {g : Nat → Nat} {cs : List (List Int)} {nn : Nat} (h : RunMd w wx p bl n F j v d g cs nn) (hp : p < w.heap.size) (hb : bl < w.heap.size) (d' : List Int) (hd : Wc d') : RunMd w (wx.setRow w.heap.size (cv d')) p bl n F j v d' g cs nn :=
 ⟨hd, setRow_heap _ _ _ _ _ _ h.c0, (setRow_other _ _ _ _ (by omega)).trans h.c1, by rw [size_setRow]; exact h.sz, h.own.kept' (grown_row _ _ _) (by rintro k ⟨⟩; omega), mem_setRow h.mem (by omega) (by omega) _, h.nle, grown_setRow h.grw (by omega) _⟩
theorem RunMd.below {w wx wy : World} {p bl n F j : Nat} {v : Value} {d : List Int} {g : Nat → Nat} {cs : List (List Int)} {nn : Nat} (h : RunMd w wx p bl n F j v d g cs nn) (hB : Below wx.heap.size wx wy) : RunMd w wy p bl n F j v d g cs nn :=
 ⟨h.wc, (hB.block _ (by have := h.sz; omega)).trans h.c0, (hB.block _ (by have := h.sz; omega)).trans h.c1, Nat.le_trans h.sz hB.size, h.own.kept' (grownB hB none) (by rintro k ⟨⟩), h.mem.below hB, h.nle, grown_below h.grw hB⟩
theorem RunSt.md {w wx w2 : World} {p bl n F : Nat} {ans : List Int} {T : List Int × (Nat → Nat) × List (List Int) × Int × Nat} {j : Nat} {v : Value} {cn : List Int} {fn : Nat → Nat} {cs : List (List Int)} {nn : Nat}
  (h : RunSt w wx p bl n F ans T j v cn fn cs nn) (hp : p < w.heap.size) (hb : bl < w.heap.size) (d : List Int) (hd : Wc d) (g : Nat → Nat) (n2 : Nat) (hn2 : n2 ≤ nn + 4) (hm2 : Mm.MemAt w2 p bl n2 g) (hg2 : wx.grownBy w2 (some bl)) :
  RunMd w ((w2.alloc (.cells (cv d) 25)).setRow w.heap.size (cv d)) p bl n F j v d g cs n2 := by
 have hsz := h.sz
 have hsz2 := hg2.size
 have k0 : (w2.alloc (.cells (cv d) 25)).heap[w.heap.size]? = some (.cells (cv cn) 25 (0, 0)) := (Below.heap_alloc _ _ _ (by omega)).trans ((hg2.block _ (by omega) (fun e => by injection e with e; omega)).trans h.c0)
 have k1 : (w2.alloc (.cells (cv d) 25)).heap[w.heap.size + 1]? = some (.cells (cv zs) 25 (0, 0)) := (Below.heap_alloc _ _ _ (by omega)).trans ((hg2.block _ (by omega) (fun e => by injection e with e; omega)).trans h.c1)
 refine ⟨hd, setRow_heap _ _ _ _ _ _ k0, (setRow_other _ _ _ _ (by omega)).trans k1, by rw [size_setRow]; simp; omega, ?_, mem_setRow (hm2.alloc _) (by omega) (by omega) _, by have := h.nle; omega, ?_⟩
 ·exact (OwnK.kept' (OwnK.kept' (h.own.kept' hg2 (by rintro k ⟨⟩; omega)) (World.grownBy_alloc w2 _ none) (by rintro k ⟨⟩))  (grown_row _ _ _) (by rintro k ⟨⟩; omega))
 ·exact grown_setRow (grown_below (grown_trans h.grw hg2) ((Below.refl _ w2).alloc (Nat.le_refl _) _)) (by omega) _
theorem RunMd.app {w wx wy : World} {p bl n F j : Nat} {v v' : Value} {d : List Int} {g : Nat → Nat} {cs cs' : List (List Int)} {nn : Nat} (h : RunMd w wx p bl n F j v d g cs nn) (h5 : OwnK wy (w.heap.size + 2) v' cs') (hg : wx.grownBy wy v.ownBlock) (hp : p < w.heap.size) (hb : bl < w.heap.size) : RunMd w wy p bl n F j v' d g cs' nn := by
 have hne : ∀ i, i < w.heap.size + 2 → some i ≠ v.ownBlock := fun i hi e => by
  have := (World.ownsRow.lt h.own i e.symm).1
  omega
 have hsz := h.sz
 exact ⟨h.wc, (hg.block _ (by omega) (hne _ (by omega))).trans h.c0, (hg.block _ (by omega) (hne _ (by omega))).trans h.c1, Nat.le_trans h.sz hg.size, h5, h.mem.kept hg (hne _ (by omega)) (hne _ (by omega)), h.nle,
  ⟨hg.os.trans h.grw.os, hg.tape.trans h.grw.tape, hg.output.trans h.grw.output, Nat.le_trans h.grw.size hg.size, fun i hi hr => (hg.block i (by omega) (hne _ (by omega))).trans (h.grw.block i hi hr)⟩⟩
theorem RunMd.next {w wx : World} {p bl n F : Nat} {ans : List Int} {T : List Int × (Nat → Nat) × List (List Int) × Int × Nat} {j : Nat} {v : Value} {d : List Int} {g : Nat → Nat} {cs : List (List Int)} {nn : Nat}
  (h : RunMd w wx p bl n F j v d g cs nn) (hT : T = gl cs (j + 1) (runv (F - (j + 1)) d g (ans.drop cs.length))) (hl : cs.length ≤ ans.length) (hj : cs.length ≤ j + 1) : RunSt w wx p bl n F ans T (j + 1) v d g cs nn :=
 ⟨h.wc, h.c0, h.c1, h.sz, h.own, h.mem, h.nle, h.grw, hT, hl, hj⟩
set_option maxHeartbeats 4000000 in
theorem Run_calls (c : List Int) (hc : Wc c) (p bl n : Nat) (f : Nat → Nat) (w : World) (hM : Mm.MemAt w p bl n f) (hn : n < 1000000) (A : Option Addr) (cap : Nat) (ans : List Int) (hA : AnsAt w A ans) (har : ∀ i, 0 ≤ ans.getD i 0 ∧ ans.getD i 0 < 4294967296) (hal : ans.length < 4611686018427387904) (fuel : Int) (hF : fuel ≤ 1000) (T : List Int × (Nat → Nat) × List (List Int) × Int × Nat) (hT : T = runv fuel.toNat (c.set 0 0) f ans) :
  Calls Try.prog 13 #[.agg (cv c), .pointer (some ⟨p, 0, none⟩), .slice A ans.length cap, .int .i64 fuel] w fun e w' => ∃ v, e = .returned (.tuple #[.agg (cv T.1), v, .int .i64 T.2.2.2.1, .int .i64 (T.2.2.2.2 : Int)]) ∧ OwnK w' w.heap.size v T.2.2.1 ∧ (∃ n', n' ≤ n + 4 * fuel.toNat ∧ Mm.MemAt w' p bl n' T.2.1) ∧ w.grownBy w' (some bl) := by
 have hl := hc.len
 have hc0 : Wc (c.set 0 0) := hc.set 0 0 (by omega)
 have hl0 := hc0.len
 have hlp := hM.lt
 have hlb := hM.map.lt
 obtain ⟨F, hFF⟩ : ∃ F, F = fuel.toNat := ⟨_, rfl⟩
 rw [← hFF] at hT ⊢
 have hst : RunSt w ((w.alloc (.cells (cv (c.set 0 0)) 25)).alloc (.cells (cv zs) 25)) p bl n F ans T 0 (.slice none 0 0) (c.set 0 0) f [] n := by
  refine ⟨hc0, heap_alloc2_old _ _ _, heap_alloc2_new _ _ _, by simp, World.ownsRow_nil _ _ _ _, (hM.alloc _).alloc _, by omega, grownB (((Below.refl _ w).alloc (Nat.le_refl _) _).alloc (by simp) _) _, ?_, Nat.zero_le _, Nat.le_refl _⟩
  rw [hT]
  simp [gl]
 have HST := Aside0.mk hst
 have HAN := Lib.hid (fun w' (hg : w.grownBy w' (some bl)) => hA.grown hM hg)
 have HAR := Lib.hid har
 clear hst hA har hM hc hc0 hT
 go_enter Try.func13, Try.ntmps13
 go_wp2_with (refine alC rfl rfl ?_)
 go_loopw [12, 13] (fun s12 s13 wx => ∃ (j : Nat) (v : Value) (cn : List Int) (fn : Nat → Nat) (cs : List (List Int)) (nn : Nat), (j : Int) ≤ (F : Int) ∧ s13 = .int .i64 j ∧ s12 = v ∧ Aside0 (RunSt w wx p bl n F ans T j v cn fn cs nn)) (fun _ s13 _ => F - (intOf s13).toNat)
 case atStart => exact ⟨0, _, _, _, _, _, by omega, rfl, rfl, HST⟩
 case round =>
  obtain ⟨j, v, cn, fn, cs, nn, hjF, rfl, rfl, HS⟩ := hrel
  clear HST
  have hS := HS.out
  have hcl := hS.wc.len
  have hsz := hS.sz
  have hnle := hS.nle
  have hll := hS.len
  have hlj := hS.lej
  have K0 := Lib.hid hS.c0
  have K1 := Lib.hid hS.c1
  by_cases hlt : j < F
  ·obtain ⟨k, hk⟩ : ∃ k, F - j = k + 1 := ⟨F - j - 1, by omega⟩
   have hk2 : F - (j + 1) = k := by omega
   have wd := hS.wc.step fn hS.mem.map.2.1
   have hstp := Step_calls cn hS.wc p bl nn fn wr hS.mem (by omega)
   have htot := hS.tot
   rw [hk] at htot
   obtain ⟨z, hz⟩ : ∃ z, stepv cn fn = z := ⟨_, rfl⟩
   obtain ⟨d, g, en⟩ := z
   rw [hz] at wd hstp
   simp only at wd hstp
   have hld := wd.len
   have wd0 := wd
   have HSP := Lib.hid hstp
   have HZ := Lib.hid hz
   have HTT := Lib.hid htot
   have HWD := Lib.hid wd
   clear hS hstp wd hz htot
   have g1 : (j : Int) < fuel := by omega
   have wj : IntKind.i64.wrap ((j : Int) + 1) = (j : Int) + 1 := by rw [IntKind.wrap_i64]; omega
   by_cases h0 : en = 0
   ·subst h0
    clear wd0
    go_wp2_with (first | refine ldC rfl _ rfl _ rfl _ (0, 0) K0.out hcl ?_ | (go_at_call 15; refine hold_ ?_))
    intro _
    refine (HSP.out).mono ?_
    rintro q w2 ⟨rfl, n2, hn2, hm2, hg2⟩
    have MD := Aside0.mk (HS.out.md hlp hlb d HWD.out g n2 hn2 hm2 hg2)
    have K0' := Lib.hid ((Below.heap_alloc w2 (.cells (cv d) 25) w.heap.size (by have := hg2.size; omega)).trans ((hg2.block w.heap.size (by omega) (fun e => by injection e with e; omega)).trans K0.out))
    clear hm2 hg2 HSP
    go_wp2_with (first | refine alC rfl rfl ?_ | refine stN rfl _ _ rfl _ rfl rfl zs hld rfl ?_ | refine ldC rfl _ rfl _ rfl _ (0, 0) (heap_alloc_new _ _) hld ?_ | refine stC rfl _ _ rfl _ _ rfl rfl cn K0'.out hld hcl ?_)
    go_roundw
    case measure => simp [intOf]; omega
    case rel => exact ⟨j + 1, u12, d, g, cs, n2, by omega, by go_num, rfl, ⟨MD.out.next (by rw [hk2, HTT.out, run_on k cn fn _ d g HZ.out, gl_gl, List.append_nil]) hll (by omega)⟩⟩
   by_cases h1 : en = 1
   ·subst h1
    have HCL := Lib.hid (call_calls d wd0)
    clear wd0
    go_wp2_with (first | refine ldC rfl _ rfl _ rfl _ (0, 0) K0.out hcl ?_ | (go_at_call 15; refine hold_ ?_))
    intro _
    refine (HSP.out).mono ?_
    rintro q w2 ⟨rfl, n2, hn2, hm2, hg2⟩
    have MD := Aside0.mk (HS.out.md hlp hlb d HWD.out g n2 hn2 hm2 hg2)
    have K0' := Lib.hid ((Below.heap_alloc w2 (.cells (cv d) 25) w.heap.size (by have := hg2.size; omega)).trans ((hg2.block w.heap.size (by omega) (fun e => by injection e with e; omega)).trans K0.out))
    clear hm2 hg2 HSP
    go_wp2_with (first | refine alC rfl rfl ?_ | refine stN rfl _ _ rfl _ rfl rfl zs hld rfl ?_ | refine ldC rfl _ rfl _ rfl _ (0, 0) (heap_alloc_new _ _) hld ?_ | refine stC rfl _ _ rfl _ _ rfl rfl cn K0'.out hld hcl ?_ | refine ldC rfl _ rfl _ rfl _ (0, 0) MD.out.c0 hld ?_ | (go_at_call 32; refine hold_ ?_))
    intro _
    refine (HCL.out _).mono ?_
    rintro q w4 ⟨rfl, hb4⟩
    have M4 := Aside0.mk (MD.out.below hb4)
    have hk8 : (callv d).length = 8 := rfl
    clear MD hb4 K0'
    have hb4s := M4.out.sz
    go_wp2_with (at_builtin; refine hold_ ?_)
    intro _
    rw [fold8 (callv d) rfl]
    clear hk8
    refine wp_appK rfl _ _ rfl (w.heap.size + 2) u12 cs (callv d) rfl rfl M4.out.own 1 rfl (by omega) M4.out.sz ?_
    intro v5 w5 h5 hg5 hn5
    have M5 := Aside0.mk (M4.out.app h5 hg5 hlp hlb)
    obtain ⟨o5, cap5, hv5, _⟩ := own_optK h5
    rw [List.length_append, show [callv d].length = 1 from rfl] at hv5
    subst hv5
    clear h5 hg5 hn5 M4 hb4s HCL
    have hz5 := M5.out.sz
    by_cases hla : cs.length < ans.length
    ·obtain ⟨ad, rfl, _, hcell⟩ := (HAN.out w5 M5.out.grw) cs.length hla
     have ha := HAR.out cs.length
     obtain ⟨a, hae⟩ : ∃ a, a = ans.getD cs.length 0 := ⟨_, rfl⟩
     rw [← hae] at hcell ha
     have hdr : ans.drop cs.length = a :: ans.drop (cs ++ [callv d]).length := by
      rw [List.length_append, show [callv d].length = 1 from rfl, hae, List.getD_eq_getElem?_getD, List.getElem?_eq_getElem hla]
      exact List.drop_eq_getElem_cons hla
     have htt := HTT.out
     rw [hdr, run_call k cn fn _ _ d g HZ.out, gl_gl] at htt
     have HTE := Lib.hid htt
     have hle1 : (cs.length : Int) + 1 ≤ (ans.length : Int) := by omega
     have hw1 : IntKind.i64.wrap ((cs.length : Int) + 1 - 1) = (cs.length : Int) := by rw [IntKind.wrap_i64]; omega
     have hix : (cs.length : Int) < (ans.length : Int) := by omega
     have hf0 : World.frozen? w5 ⟨w.heap.size, 10, none⟩ = false := frozen_of_row _ _ _ _ _ M5.out.c0
     have hcl10 := cellC M5.out.c0 hld 10 (by omega)
     have hst := stRow M5.out.c0 10 a
     have hzg : w.heap.size < w5.heap.size := by omega
     have M6 := Aside0.mk (M5.out.setC hlp hlb (d.set 10 a) (HWD.out.set 10 a ha))
     clear htt hdr hae
     go_wp2
     refine ⟨?_, by simp [intOf]; omega⟩
     exact ⟨j + 1, _, d.set 10 a, g, cs ++ [callv d], n2, by omega, by go_num, rfl, ⟨M6.out.next (by rw [hk2]; exact HTE.out) (by rw [List.length_append, show [callv d].length = 1 from rfl]; omega) (by rw [List.length_append, show [callv d].length = 1 from rfl]; omega)⟩⟩
    ·have hTe := HTT.out
     rw [show ans.drop cs.length = [] from List.drop_eq_nil_iff.2 (by omega), run_last k cn fn d g HZ.out] at hTe
     simp only [gl] at hTe
     have HTE := Lib.hid hTe
     have hle1 : ¬ (cs.length : Int) + 1 ≤ (ans.length : Int) := by omega
     clear hTe
     go_wp2_with (first | refine ldC rfl _ rfl _ rfl _ (0, 0) M5.out.c0 hld ?_ | refine stC rfl _ _ rfl _ _ rfl rfl zs M5.out.c1 hld rfl ?_)
     refine retC4 rfl rfl (setRow_heap _ _ _ _ _ _ M5.out.c1) hld rfl rfl rfl rfl ⟨.slice o5 (cs.length + 1) cap5, ?_, ?_⟩
     rotate_left
     ·rw [HTE.out]
      exact ⟨OwnK_lower (M5.out.own.kept' (grown_row _ _ _) (by rintro k ⟨⟩; omega)) (by omega), ⟨n2, by omega, mem_setRow M5.out.mem (by omega) (by omega) _⟩, grown_setRow M5.out.grw (by omega) _⟩
     ·rw [HTE.out]; simp only [Nat.add_comm 1]; rfl
   ·have b0 : (en != 0) = true := bne_iff_ne.mpr h0
    have b1 : (en == 1) = false := beq_eq_false_iff_ne.mpr h1
    have hTe := HTT.out
    rw [run_stop k cn fn _ d g en HZ.out h0 h1] at hTe
    simp only [gl, List.append_nil] at hTe
    have HTE := Lib.hid hTe
    clear hTe h0 h1 wd0
    go_wp2_with (first | refine ldC rfl _ rfl _ rfl _ (0, 0) K0.out hcl ?_ | (go_at_call 15; refine hold_ ?_))
    intro _
    refine (HSP.out).mono ?_
    rintro q w2 ⟨rfl, n2, hn2, hm2, hg2⟩
    have MD := Aside0.mk (HS.out.md hlp hlb d HWD.out g n2 hn2 hm2 hg2)
    have K0' := Lib.hid ((Below.heap_alloc w2 (.cells (cv d) 25) w.heap.size (by have := hg2.size; omega)).trans ((hg2.block w.heap.size (by omega) (fun e => by injection e with e; omega)).trans K0.out))
    clear hm2 hg2 HSP
    go_wp2_with (first | refine alC rfl rfl ?_ | refine stN rfl _ _ rfl _ rfl rfl zs hld rfl ?_ | refine ldC rfl _ rfl _ rfl _ (0, 0) (heap_alloc_new _ _) hld ?_ | refine stC rfl _ _ rfl _ _ rfl rfl cn K0'.out hld hcl ?_ | refine ldC rfl _ rfl _ rfl _ (0, 0) MD.out.c0 hld ?_ | refine stC rfl _ _ rfl _ _ rfl rfl zs MD.out.c1 hld rfl ?_)
    refine retC4 rfl rfl (setRow_heap _ _ _ _ _ _ MD.out.c1) hld rfl rfl rfl rfl ⟨u12, ?_, ?_⟩
    ·rw [HTE.out]; simp only [Nat.add_comm 1]; rfl
    ·rw [HTE.out]
     exact ⟨OwnK_lower (MD.out.own.kept' (grown_row _ _ _) (by rintro k ⟨⟩; omega)) (by omega), ⟨n2, by omega, mem_setRow MD.out.mem (by omega) (by omega) _⟩, grown_setRow MD.out.grw (by omega) _⟩
  ·obtain rfl : j = F := by omega
   have hTe := hS.tot
   rw [Nat.sub_self] at hTe
   simp only [runv, gl, List.append_nil, Nat.zero_add] at hTe
   have HTE := Lib.hid hTe
   clear hTe
   have HSS := Aside0.mk hS
   clear hS
   have g1 : ¬ (j : Int) < fuel := by omega
   have hmx : max 0 fuel = (j : Int) := by omega
   go_wp2_with (first | refine ldC rfl _ rfl _ rfl _ (0, 0) K0.out hcl ?_ | refine stC rfl _ _ rfl _ _ rfl rfl zs K1.out hcl rfl ?_)
   refine retC4 rfl rfl (setRow_heap _ _ _ _ _ _ K1.out) hcl rfl rfl rfl rfl ⟨u12, ?_, ?_⟩
   ·have e : max fuel 0 = (j : Int) := by omega
    rw [HTE.out]
    show Ending.returned (.tuple #[.agg (cv cn), u12, .int .i64 6, .int .i64 (max fuel 0)]) = _
    rw [e]
   ·rw [HTE.out]
    have hq := HSS.out
    exact ⟨OwnK_lower (hq.own.kept' (grown_row _ _ _) (by rintro k ⟨⟩; omega)) (by omega), ⟨nn, by omega, mem_setRow hq.mem (by omega) (by omega) _⟩, grown_setRow hq.grw (by omega) _⟩
end Go.Proofs.Ytononmcodecmaaa.Cp
end
section
/- Layer 4: the machine (part KO). -/
namespace Go.Proofs.Ytononmcodecmaaa.Cp
open Go.RowKit Go.Maps Go.Proofs Go.Proofs.YtononmcodecmaaaW Go.Proofs.YtononmcodecmaaaW.PrintWords
set_option maxRecDepth 100000
set_option linter.unusedVariables false
set_option linter.unusedSimpArgs false
attribute [local go_sem] cv_set cv_at cv_size
theorem bdC {ops : Array Oper} {rest : List Oper} {o : Oper} {a : Act} {w : World} {Q : Exit → Act → World → Prop} (hgd : o.guard = none) (parts : Array (Nat × Operand)) (ho : o.op = .build 25 parts) (c : List Int)
  (hb : Try.prog.built 25 (parts.map fun (i, x) => (i, a.eval x)).toList = some (cv c)) (h : wpList Try.prog ops Q rest (a.put o.dst (.agg (cv c))) w) : wpList Try.prog ops Q (o :: rest) a w := by
 refine wpList_build hgd _ parts ho (by rw [hb]; rfl) ?_
 rw [hb]
 exact h
theorem bd0 : Try.prog.built 25 [] = some (cv zs) := by kernel_rfl
theorem bd2 : Try.prog.built 25 [(1, .int .u32 2)] = some (cv (zs.set 32 2)) := by kernel_rfl
theorem bd8 : Try.prog.built 25 [(1, .int .u32 8)] = some (cv (zs.set 32 8)) := by kernel_rfl
def F2 : Nat → Nat := Mm.putn (Mm.putn (fun _ => 0) 0 (fun j => 5243027 / 256 ^ j % 256) 4) 4 (fun j => 115 / 256 ^ j % 256) 4
theorem F2_ld : Mm.ld F2 0 4 = 5243027 ∧ Mm.ld F2 4 4 = 115 ∧ Mm.ld F2 8 4 = 0 := by decide +kernel
theorem dec_f : decT 5243027 = (18, 1, 0, 0, 5, 0) ∧ decT 115 = (45, 0, 0, 0, 0, 0) ∧ decT 0 = (0, 0, 0, 0, 0, 20) := by decide +kernel
def c1f : List Int := (zs.set 1 5).set 32 4
def c2f : List Int := c1f.set 32 8
def c3f : List Int := c2f.set 10 7
theorem doe1 : doesv (zs.set 0 0) 18 1 0 0 5 = (c1f, true) := by decide +kernel
theorem doe2 : doesv (c1f.set 0 0) 45 0 0 0 0 = (c1f, false) := by decide +kernel
theorem doe3 : doesv (zs.set 32 8) 1 1 0 0 1 = (((zs.set 32 8).set 1 4104).set 32 12, true) := by decide +kernel
theorem doe4 : doesv zs 2 0 0 0 0 = (zs, false) := by decide +kernel
theorem st1 : stepv zs F2 = (c1f, F2, 0) := by
 rw [stepv_w zs F2 (by decide +kernel), show (reg (zs.set 0 0) 32).toNat = 0 by decide +kernel, F2_ld.1, dec_f.1]
 unfold stepw
 simp only
 rw [if_neg (by decide), doe1, if_pos rfl]
theorem st2 : stepv c1f F2 = (c2f, F2, 1) := by
 rw [stepv_w c1f F2 (by decide +kernel), show (reg (c1f.set 0 0) 32).toNat = 4 by decide +kernel, F2_ld.2.1, dec_f.2.1]
 unfold stepw
 simp only
 rw [if_neg (by decide), doe2, if_neg (by decide)]
 unfold jumpv
 rw [if_neg (by decide), if_neg (by decide), if_neg (by decide +kernel), if_pos rfl]
 rw [show (c1f.set 0 0).set 32 ((reg (c1f.set 0 0) 32 + 4) % 4294967296) = c2f by decide +kernel]
theorem st3 : stepv c2f F2 = (c2f, F2, 3) := by
 rw [stepv_w c2f F2 (by decide +kernel), show (reg (c2f.set 0 0) 32).toNat = 8 by decide +kernel, F2_ld.2.2, dec_f.2.2]
 unfold stepw
 simp only
 rw [if_pos (by decide), show c2f.set 0 0 = c2f by decide +kernel]
theorem st3' : stepv c3f F2 = (c3f, F2, 3) := by
 rw [stepv_w c3f F2 (by decide +kernel), show (reg (c3f.set 0 0) 32).toNat = 8 by decide +kernel, F2_ld.2.2, dec_f.2.2]
 unfold stepw
 simp only
 rw [if_pos (by decide), show c3f.set 0 0 = c3f by decide +kernel]
theorem st4 : stepv (zs.set 32 2) F2 = (zs.set 32 2, F2, 4) := by
 rw [stepv_m (zs.set 32 2) F2 (by decide +kernel), show (zs.set 32 2).set 0 0 = zs.set 32 2 by decide +kernel]
theorem run_f : runv 9 (zs.set 0 0) F2 [7] = (c3f, F2, [callv c2f], 3, 3) := by
 rw [show zs.set 0 0 = zs by decide +kernel, run_on 8 zs F2 [7] c1f F2 st1, run_call 7 c1f F2 7 [] c2f F2 st2, show c2f.set 10 7 = c3f from rfl, run_stop 6 c3f F2 [] c3f F2 3 st3' (by decide) (by decide)]
 rfl
theorem wz : Wc zs := ⟨rfl, fun i => by
 by_cases h : i < 33
 ·have : ∀ n : Fin 33, 0 ≤ reg zs n.val ∧ reg zs n.val < 4294967296 := by decide +kernel
  exact this ⟨i, h⟩
 ·unfold reg
  rw [List.getD_eq_getElem?_getD, List.getElem?_eq_none (by rw [zs_len]; omega)]
  simp⟩
theorem w1 : Wc c1f := (wz.set 1 5 (by omega)).set 32 4 (by omega)
theorem w2f : Wc c2f := w1.set 32 8 (by omega)
end Go.Proofs.Ytononmcodecmaaa.Cp
end
section
/- Layer 4: the machine (part KP). -/
namespace Go.Proofs.Ytononmcodecmaaa.Cp
open Go.RowKit Go.Maps Go.Proofs Go.Proofs.YtononmcodecmaaaW Go.Proofs.YtononmcodecmaaaW.PrintWords
set_option maxRecDepth 100000
set_option linter.unusedVariables false
set_option linter.unusedSimpArgs false
attribute [local go_sem] cv_set cv_at cv_size
theorem kp {w w' : World} {O : Obj} {N : Obj} {g bl : Nat} (h : w.heap[g]? = some O) (hg : (w.alloc N).grownBy w' (some bl)) (hne : g ≠ bl) : w'.heap[g]? = some O := by
 have hlt : g < w.heap.size := (Array.getElem?_eq_some_iff.1 h).1
 rw [hg.block g (by simp; omega) (fun e => hne (by injection e)), Below.heap_alloc _ _ _ hlt]
 exact h
theorem kn {w w' : World} {N : Obj} {bl : Nat} (hg : (w.alloc N).grownBy w' (some bl)) (hne : w.heap.size ≠ bl) : w'.heap[w.heap.size]? = some N := by
 rw [hg.block _ (by simp) (fun e => hne (by injection e))]
 exact heap_alloc_new _ _
theorem gw {W w w' : World} {N : Obj} {bl : Nat} (h : Below W.heap.size W w) (hg : (w.alloc N).grownBy w' (some bl)) (hb : W.heap.size ≤ bl) : Below W.heap.size W w' :=
 (h.alloc h.size N).trans ⟨hg.os, hg.tape, hg.output, hg.size, fun k hk => hg.block k (by have := h.size; simp; omega) (fun e => by injection e with e; omega)⟩
set_option maxHeartbeats 4000000 in
theorem fixed_calls (w : World) : Calls Try.prog 11 #[] w fun e w' => e = .returned (.bool true) ∧ Below w.heap.size w w' := by
 go_enter Try.func11, Try.ntmps11
 go_wp2_with (go_at_call 28; refine hold_ ?_)
 intro _
 refine (Mm.New_calls w).mono ?_
 rintro e wa ⟨rfl, hm, hg⟩
 have HM := Lib.hid hm
 have HB : Hid (Below w.heap.size w wa) := Lib.hid ⟨hg.os, hg.tape, hg.output, hg.size, fun k hk => hg.block k hk (fun e => by cases e)⟩
 have hz : w.heap.size + 2 ≤ wa.heap.size := by have := hm.lt; omega
 clear hm hg
 obtain ⟨p, hp⟩ : ∃ p, p = w.heap.size + 1 := ⟨_, rfl⟩
 rw [← hp] at HM ⊢
 clear hp
 go_wp2_with (go_at_call 18; refine hold_ ?_)
 intro _
 refine (Mm.Store_at HM.out 0 4 5243027 0 4 5243027 (by simp) (by simp) (by simp) (by omega) (by omega) (by omega) (by omega)).mono ?_
 rintro e wb ⟨rfl, hm, hg⟩
 have HM2 := Lib.hid hm
 have HB2 : Hid (Below w.heap.size w wb) := Lib.hid (HB.out.trans ⟨hg.os, hg.tape, hg.output, hg.size, fun k hk => hg.block k (by omega) (fun e => by injection e with e; omega)⟩)
 have hz2 : w.heap.size + 2 ≤ wb.heap.size := Nat.le_trans hz hg.size
 clear hm hg HM HB hz
 go_wp2_with (go_at_call 18; refine hold_ ?_)
 intro _
 refine (Mm.Store_at HM2.out 4 4 115 4 4 115 (by simp) (by simp) (by simp) (by omega) (by omega) (by omega) (by omega)).mono ?_
 rintro e wc ⟨rfl, hm, hg⟩
 have HM3 := Lib.hid (show Mm.MemAt wc p w.heap.size 8 F2 from hm)
 have HB3 : Hid (Below w.heap.size w wc) := Lib.hid (HB2.out.trans ⟨hg.os, hg.tape, hg.output, hg.size, fun k hk => hg.block k (by omega) (fun e => by injection e with e; omega)⟩)
 have hz3 : w.heap.size + 2 ≤ wc.heap.size := Nat.le_trans hz2 hg.size
 clear hm hg HM2 HB2 hz2
 have hs1 := Step_calls zs wz p w.heap.size 8 F2 wc HM3.out (by omega)
 rw [st1] at hs1
 have HS := Lib.hid hs1
 clear hs1
 go_wp2_with (first | refine bdC rfl _ rfl zs bd0 ?_ | (go_at_call 15; refine hold_ ?_))
 intro _
 refine HS.out.mono ?_
 rintro e wd ⟨rfl, n4, hn4, hm, hg⟩
 have HM4 := Lib.hid hm
 have HB4 : Hid (Below w.heap.size w wd) := Lib.hid (HB3.out.trans ⟨hg.os, hg.tape, hg.output, hg.size, fun k hk => hg.block k (by omega) (fun e => by injection e with e; omega)⟩)
 have hz4 : w.heap.size + 2 ≤ wd.heap.size := Nat.le_trans hz3 hg.size
 clear hm hg HM3 HB3 hz3 HS
 have hs2 := Step_calls c1f w1 p w.heap.size n4 F2 _ (HM4.out.alloc (.cells (cv c1f) 25)) (by omega)
 rw [st2] at hs2
 have HS := Lib.hid hs2
 clear hs2
 go_wp2_with (first | refine alC rfl rfl ?_ | refine stN rfl _ _ rfl _ rfl rfl zs rfl rfl ?_ | refine ldC rfl _ rfl _ rfl _ (0, 0) (heap_alloc_new _ _) rfl ?_ | (go_at_call 15; refine hold_ ?_))
 intro _
 refine HS.out.mono ?_
 rintro e we ⟨rfl, n5, hn5, hm, hg⟩
 have HM5 := Lib.hid hm
 have HB5 := Lib.hid (gw HB4.out hg (Nat.le_refl _))
 have K1 := Lib.hid (kn hg (by omega))
 have hz5 : wd.heap.size + 1 ≤ we.heap.size := by have := hg.size; simpa using this
 obtain ⟨g1, hg1⟩ : ∃ g1, g1 = wd.heap.size := ⟨_, rfl⟩
 rw [← hg1] at K1 hz5 hz4 ⊢
 clear hm hg HM4 HB4 HS hg1
 have hs3 := Step_calls c2f w2f p w.heap.size n5 F2 _ (HM5.out.alloc (.cells (cv c2f) 25)) (by omega)
 rw [st3] at hs3
 have HS := Lib.hid hs3
 clear hs3
 go_wp2_with (first | refine alC rfl rfl ?_ | refine stN rfl _ _ rfl _ rfl rfl zs rfl rfl ?_ | refine ldC rfl _ rfl _ rfl _ (0, 0) (heap_alloc_new _ _) rfl ?_ | (go_at_call 15; refine hold_ ?_))
 intro _
 refine HS.out.mono ?_
 rintro e wf ⟨rfl, n6, hn6, hm, hg⟩
 have HM6 := Lib.hid hm
 have HB6 := Lib.hid (gw HB5.out hg (Nat.le_refl _))
 have K2 := Lib.hid (kn hg (by omega))
 have K1' := Lib.hid (kp K1.out hg (by omega))
 have hz6 : we.heap.size + 1 ≤ wf.heap.size := by have := hg.size; simpa using this
 obtain ⟨g2, hg2⟩ : ∃ g2, g2 = we.heap.size := ⟨_, rfl⟩
 rw [← hg2] at K2 hz6 hz5 ⊢
 clear hm hg HM5 HB5 HS hg2 K1
 have hs4 := Step_calls (zs.set 32 2) (wz.set 32 2 (by omega)) p w.heap.size n6 F2 _ (HM6.out.alloc (.cells (cv c2f) 25)) (by omega)
 rw [st4] at hs4
 have HS := Lib.hid hs4
 clear hs4
 go_wp2_with (first | refine alC rfl rfl ?_ | refine stN rfl _ _ rfl _ rfl rfl zs rfl rfl ?_ | refine bdC rfl _ rfl (zs.set 32 2) bd2 ?_ | (go_at_call 15; refine hold_ ?_))
 intro _
 refine HS.out.mono ?_
 rintro e wg ⟨rfl, n7, hn7, hm, hg⟩
 have HM7 := Lib.hid hm
 have HB7 := Lib.hid (gw HB6.out hg (Nat.le_refl _))
 have K2' := Lib.hid (kp K2.out hg (by omega))
 have K1 := Lib.hid (kp K1'.out hg (by omega))
 have hz7 : wf.heap.size + 1 ≤ wg.heap.size := by have := hg.size; simpa using this
 clear hm hg HM6 HB6 HS K1' K2
 have hd1 := Does_calls (zs.set 32 8) (wz.set 32 8 (by omega)) 1 1 0 0 1 (wg.alloc (.cells (cv (zs.set 32 2)) 25))
 rw [doe3] at hd1
 have HS := Lib.hid hd1
 clear hd1
 go_wp2_with (first | refine alC rfl rfl ?_ | refine stN rfl _ _ rfl _ rfl rfl zs rfl rfl ?_ | refine bdC rfl _ rfl (zs.set 32 8) bd8 ?_ | (go_at_call 9; refine hold_ ?_))
 intro _
 refine HS.out.mono ?_
 rintro e wh ⟨rfl, hb⟩
 have hg := grownB hb (some w.heap.size)
 have HM8 := Lib.hid ((HM7.out.alloc (.cells (cv (zs.set 32 2)) 25)).below hb)
 have HB8 := Lib.hid (gw HB7.out hg (Nat.le_refl _))
 have K2 := Lib.hid (kp K2'.out hg (by omega))
 have K1' := Lib.hid (kp K1.out hg (by omega))
 have hz8 : wg.heap.size + 1 ≤ wh.heap.size := by have := hg.size; simpa using this
 clear hb hg HM7 HB7 HS K1 K2'
 have hd1 := Does_calls zs wz 2 0 0 0 0 (wh.alloc (.cells (cv (((zs.set 32 8).set 1 4104).set 32 12)) 25))
 rw [doe4] at hd1
 have HS := Lib.hid hd1
 clear hd1
 go_wp2_with (first | refine alC rfl rfl ?_ | refine stN rfl _ _ rfl _ rfl rfl zs rfl rfl ?_ | refine bdC rfl _ rfl zs bd0 ?_ | (go_at_call 9; refine hold_ ?_))
 intro _
 refine HS.out.mono ?_
 rintro e wi ⟨rfl, hb⟩
 have hg := grownB hb (some w.heap.size)
 have HM9 := Lib.hid ((HM8.out.alloc (.cells (cv (((zs.set 32 8).set 1 4104).set 32 12)) 25)).below hb)
 have HB9 := Lib.hid (gw HB8.out hg (Nat.le_refl _))
 have K2' := Lib.hid (kp K2.out hg (by omega))
 have K1 := Lib.hid (kp K1'.out hg (by omega))
 have K3 := Lib.hid (kn hg (by omega))
 have hz9 : wh.heap.size + 1 ≤ wi.heap.size := by have := hg.size; simpa using this
 obtain ⟨g3, hg3⟩ : ∃ g3, g3 = wh.heap.size := ⟨_, rfl⟩
 rw [← hg3] at K3 hz9 hz8 ⊢
 clear hb hg HM8 HB8 HS K1' K2 hg3
 go_wp2_with (first | refine alC rfl rfl ?_ | refine stN rfl _ _ rfl _ rfl rfl zs rfl rfl ?_ | refine bdC rfl _ rfl zs bd0 ?_ | (go_at_call 13; refine hold_ ?_))
 intro _
 have hb1 : Below wi.heap.size wi ((wi.alloc (.cells (cv zs) 25)).alloc (.cells #[.int .u32 7] 22)) := ((Below.refl _ wi).alloc (Nat.le_refl _) _).alloc (by simp) _
 refine (Run_calls zs wz p w.heap.size n7 F2 _ (HM9.out.below hb1) (by omega) (some ⟨wi.heap.size + 1, 0, none⟩) 1 [7] ?_ ?_ (by decide) 9 (by decide) (c3f, F2, [callv c2f], 3, 3) run_f.symm).mono ?_
 ·intro i hi
  obtain rfl : i = 0 := by simp at hi; omega
  refine ⟨_, rfl, by simp, ?_⟩
  have e : (⟨wi.heap.size + 1, 0, none⟩ : Addr).add 0 = ⟨wi.heap.size + 1, 0, none⟩ := by unfold Addr.add; split <;> simp_all
  rw [e]
  have := heap_alloc2_new wi (.cells (cv zs) 25) (.cells #[.int .u32 7] 22)
  rw [cellOf this]
  rfl
 ·intro i
  by_cases hi : i = 0
  ·subst hi; decide
  ·rw [List.getD_eq_getElem?_getD, List.getElem?_eq_none (by simp; omega)]; simp
 rintro e wj ⟨v, rfl, hown, _, hg⟩
 obtain ⟨o, cp, hv, _⟩ := own_optK hown
 rw [show [callv c2f].length = 1 from rfl] at hv
 subst hv
 have hg2 : ∀ g O, wi.heap[g]? = some O → g ≠ w.heap.size → wj.heap[g]? = some O := fun g O h hne => by
  have hlt : g < wi.heap.size := (Array.getElem?_eq_some_iff.1 h).1
  rw [hg.block g (by simp; omega) (fun e => hne (by injection e)), hb1.block g hlt]
  exact h
 have k1 := hg2 _ _ K1.out (by omega)
 have k2 := hg2 _ _ K2'.out (by omega)
 have k3 := hg2 _ _ K3.out (by omega)
 have hzj : wi.heap.size + 2 ≤ wj.heap.size := by have := hg.size; simpa using this
 have HBj : Hid (Below w.heap.size w wj) := Lib.hid (HB9.out.trans ((hb1.mono (by omega)).trans ⟨hg.os, hg.tape, hg.output, hg.size, fun k hk => hg.block k (by simp; omega) (fun e => by injection e with e; omega)⟩))
 have a1 := cellC k1 rfl 1 (by omega)
 have a2 := cellC k1 rfl 32 (by omega)
 have a3 := cellC k2 rfl 32 (by omega)
 have a4 := cellC k3 rfl 1 (by omega)
 have a5 := cellC k3 rfl 32 (by omega)
 rw [show reg c1f 1 = 5 by decide +kernel] at a1
 rw [show reg c1f 32 = 4 by decide +kernel] at a2
 rw [show reg c2f 32 = 8 by decide +kernel] at a3
 rw [show reg (((zs.set 32 8).set 1 4104).set 32 12) 1 = 4104 by decide +kernel] at a4
 rw [show reg (((zs.set 32 8).set 1 4104).set 32 12) 32 = 12 by decide +kernel] at a5
 have r10 : reg c3f 10 = 7 := by decide +kernel
 have l3 : c3f.length = 33 := rfl
 have q1 : g1 < wj.heap.size := by omega
 have q2 : g2 < wj.heap.size := by omega
 have q3 : g3 < wj.heap.size := by omega
 clear hg hg2 hown k1 k2 k3 hb1 HB9 HM9 K1 K2' K3
 go_wp2_with (first | refine alC rfl rfl ?_ | refine stN rfl _ _ rfl _ rfl rfl zs rfl rfl ?_)
 go_ret
 exact ⟨rfl, HBj.out.alloc (by have := HBj.out.size; omega) _⟩
end Go.Proofs.Ytononmcodecmaaa.Cp
end
section
/- Layer 4: the machine (part KR). -/
namespace Go.Proofs.Ytononmcodecmaaa.Cp
open Go.RowKit Go.Maps Go.Proofs Go.Proofs.YtononmcodecmaaaW Go.Proofs.YtononmcodecmaaaW.PrintWords
set_option maxRecDepth 100000
set_option linter.unusedVariables false
set_option linter.unusedSimpArgs false
attribute [local go_sem] cv_set cv_at cv_size
section
open Go.ChangeShapes Go.WideShapes
variable {H : Type} {enc : TypeId × Value → H} {W : World} {base : Nat} {spare : Nat → Bool} {held : Bool}
theorem trod_cpu {fuel : Nat} {L : List Value} {x : DataW H × List MemPlace} (h : DataW.trod enc Try.prog W base spare held fuel 25 L = some x) : ∃ c : List Int, Wc c ∧ L = c.map (Value.int .u32) := by
 obtain ⟨xs, n, _, hx, hlen, hxl, hg⟩ := DataW.trod_struct Try.underlying25 h
 rw [show Try.prog.cellsOf 25 = 33 by kernel_rfl] at hlen
 have g0 : DataW.trod enc Try.prog W base spare held n 23 ((L.drop 0).take (Try.prog.cellsOf 23)) = xs[0]? := hg 0 _ rfl
 have g1 : DataW.trod enc Try.prog W base spare held n 22 ((L.drop 32).take (Try.prog.cellsOf 22)) = xs[1]? := hg 1 _ rfl
 clear hg
 match xs, hxl with
 | [y0, y1], _ =>
  simp only [show Try.prog.cellsOf 23 = 32 by kernel_rfl, show Try.prog.cellsOf 22 = 1 by kernel_rfl, List.drop_zero, List.getElem?_cons_zero, List.getElem?_cons_succ] at g0 g1
  obtain ⟨xs2, m, _, _, _, hxl2, hg2⟩ := DataW.trod_array Try.underlying23 g0
  simp only [show Try.prog.cellsOf 22 = 1 by kernel_rfl, Nat.mul_one] at hg2
  have key : ∀ i, i < 33 → ∃ z : Int, L[i]? = some (.int .u32 z) ∧ 0 ≤ z ∧ z < 4294967296 := by
   intro i hi
   have rng : ∀ z : Int, (Lit.int .u32 z).wf = true → 0 ≤ z ∧ z < 4294967296 := fun z hz => by
    simp [Lit.wf, IntKind.min, IntKind.max, IntKind.signed, IntKind.bits] at hz
    omega
   by_cases h32 : i < 32
   ·obtain ⟨y, hy⟩ : ∃ y, xs2[i]? = some y := ⟨xs2[i]'(by omega), List.getElem?_eq_getElem _⟩
    have := hg2 i h32
    rw [hy] at this
    obtain ⟨z, e, _, wf⟩ := DataW.trod_int Try.underlying22 this
    have e2 := congrArg (fun l : List Value => l[0]?) e
    simp only [List.getElem?_take, List.getElem?_drop, Nat.add_zero, List.getElem?_cons_zero] at e2
    rw [if_pos (by omega), if_pos (by omega)] at e2
    exact ⟨z, e2, rng z wf⟩
   ·obtain rfl : i = 32 := by omega
    obtain ⟨z, e, _, wf⟩ := DataW.trod_int Try.underlying22 g1
    have e2 := congrArg (fun l : List Value => l[0]?) e
    simp only [List.getElem?_take, List.getElem?_drop, Nat.add_zero, List.getElem?_cons_zero] at e2
    rw [if_pos (by omega)] at e2
    exact ⟨z, e2, rng z wf⟩
  have hreg : ∀ i, reg (L.map intOf) i = if i < 33 then intOf (L.getD i undef) else 0 := by
   intro i
   unfold reg
   rw [List.getD_eq_getElem?_getD, List.getElem?_map]
   by_cases hi : i < 33
   ·obtain ⟨z, hz, _⟩ := key i hi
    rw [if_pos hi, List.getD_eq_getElem?_getD, hz]
    rfl
   ·rw [if_neg hi, List.getElem?_eq_none (by omega)]
    rfl
  refine ⟨L.map intOf, ⟨by rw [List.length_map]; exact hlen, fun i => ?_⟩, ?_⟩
  ·rw [hreg i]
   by_cases hi : i < 33
   ·obtain ⟨z, hz, h1, h2⟩ := key i hi
    rw [if_pos hi, List.getD_eq_getElem?_getD, hz]
    exact ⟨h1, h2⟩
   ·rw [if_neg hi]
    omega
  ·apply List.ext_getElem?
   intro i
   rw [List.getElem?_map, List.getElem?_map]
   by_cases hi : i < 33
   ·obtain ⟨z, hz, _⟩ := key i hi
    rw [hz]
    rfl
   ·rw [List.getElem?_eq_none (by omega)]
    rfl
end
end Go.Proofs.Ytononmcodecmaaa.Cp
end
