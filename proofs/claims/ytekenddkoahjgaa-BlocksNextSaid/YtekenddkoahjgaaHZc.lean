/- Recurring phrases of printed texts, as theorems whose last argument stands. -/
import Derived.WalkKit
import Derived.Laws.Rows
import Derived.Below
import Derived.Test.YtekenddkoahjgaaHWMore
namespace Go.Proofs.Ytekenddkoahjgaa
open Go.RowKit Go.Proofs.YtekenddkoahjgaaW.PrintWords Go.Proofs.YtekenddkoahjgaaW.PrintLast Go.Proofs.YtekenddkoahjgaaW.PrintMore
theorem zzk {p q : Prop} (h : q) (f : q → p := by intro z_; (with_reducible repeat (first | refine blk_drewN ?_ _ | refine blk_drew ?_ | refine blk_alloc ?_ _)); exact z_) : p := f h
theorem zzr {p q : Prop} (h : q) (f : q → p := by intro z_; (with_reducible repeat (first | apply Kd.R_alloc | apply Kd.R_drewN | apply Kd.R_drew)); exact z_) : p := f h
theorem zzb {p : Prop} (f : p := by repeat (first | (with_reducible first | exact HB.out | apply below_alloc | apply pw_below_drewN | apply below_drew1) | exact HB.out)) : p := f
theorem zzg {p : Prop} (f : p := by repeat (first | (with_reducible first | exact HB.out | apply below_alloc | apply pw_below_drewN | apply below_drew1 | refine below_set ?_ (Aside0.out (by assumption))) | exact HB.out)) : p := f
theorem zza {p : Prop} (f : p := by (try simp only [List.map_toArray, List.map_cons, List.map_nil]); first | done | rfl | (simp only [List.length_drop, List.length_take]; rfl)) : p := f
theorem zzm {p : Prop} (f : p := by first | (with_reducible assumption) | assumption) : p := f
theorem zzkb {w w1 w0 : World} {g : Nat} {o : Obj} (h : w0.heap[g]? = some o) (hb : Below w.heap.size w w1) (f : w0.heap[g]? = some o → w.heap[g]? = some o := by intro z_; (with_reducible repeat (first | refine blk_drewN ?_ _ | refine blk_drew ?_ | refine blk_alloc ?_ _)); exact z_) : w1.heap[g]? = some o := (hb.block g ((Array.getElem?_eq_some_iff.1 (f h)).1)).trans (f h)
theorem zzkl {w w0 : World} {g : Nat} {o : Obj} (h : w0.heap[g]? = some o) (f : w0.heap[g]? = some o → w.heap[g]? = some o := by intro z_; (with_reducible repeat (first | refine blk_drewN ?_ _ | refine blk_drew ?_ | refine blk_alloc ?_ _)); exact z_) : g < w.heap.size := (Array.getElem?_eq_some_iff.1 (f h)).1
theorem zz {p : Prop} (h : p) : Aside0 p := Aside0.mk h
theorem zzn {g n : Nat} {w1 w : World} (hg : g = w1.heap.size) (f : Below n w w1 := by repeat (first | (with_reducible first | exact HB.out | apply below_alloc | apply pw_below_drewN | apply below_drew1 | refine below_set ?_ (Aside0.out (by assumption))) | exact HB.out)) : w.heap.size ≤ g := by
 rw [hg]
 exact f.size
theorem zzx {b g : Nat} {w w0 : World} {o : Obj} (hg : b = w.heap.size) (h : w0.heap[g]? = some o) (f : w0.heap[g]? = some o → w.heap[g]? = some o := by intro z_; (with_reducible repeat (first | refine blk_drewN ?_ _ | refine blk_drew ?_ | refine blk_alloc ?_ _)); exact z_) : g ≠ b := by
 rw [hg]
 exact Nat.ne_of_lt (Array.getElem?_eq_some_iff.1 (f h)).1
theorem zzy {b g : Nat} {w w0 : World} {o : Obj} (hg : b = w.heap.size) (h : w0.heap[g]? = some o) (f : w0.heap[g]? = some o → w.heap[g]? = some o := by intro z_; (with_reducible repeat (first | refine blk_drewN ?_ _ | refine blk_drew ?_ | refine blk_alloc ?_ _)); exact z_) : b ≠ g := by
 rw [hg]
 exact Nat.ne_of_gt (Array.getElem?_eq_some_iff.1 (f h)).1
theorem zze {p : Prop} (f : p := by first | rfl | (simp [errW_none, errW_some] <;> rfl) | (simp [*, errW_none, errW_some] <;> rfl)) : p := f
theorem zzd {p : Prop} (f : p := by repeat (first | exact Drawn0.refl _ | apply Drawn0.step)) : p := f
theorem zzh {p : Prop} (f : p := by first | rfl | (simp; done) | (simp [*]; done)) : p := f
theorem zzc2 {w : World} {g : Nat} {t : TypeId} {cs : Array Value} (h : w.heap[g]? = some (.cells cs t (0, 0))) (x0 x1 : Value) (e : cs = #[x0, x1] := by rfl) : w.cell? ⟨g, 0, none⟩ = some x0 ∧ w.cell? ⟨g, 1, none⟩ = some x1 := by
 subst e
 exact ⟨cell_of_row w g 0 _ t (0, 0) h, cell_of_row w g 1 _ t (0, 0) h⟩
theorem zzf2 {w : World} {g : Nat} {t : TypeId} {cs : Array Value} (h : w.heap[g]? = some (.cells cs t (0, 0))) : w.frozen? ⟨g, 0, none⟩ = false ∧ w.frozen? ⟨g, 1, none⟩ = false := by
 simp [World.frozen?, h]
theorem zzc3 {w : World} {g : Nat} {t : TypeId} {cs : Array Value} (h : w.heap[g]? = some (.cells cs t (0, 0))) (x0 x1 x2 : Value) (e : cs = #[x0, x1, x2] := by rfl) : w.cell? ⟨g, 0, none⟩ = some x0 ∧ w.cell? ⟨g, 1, none⟩ = some x1 ∧ w.cell? ⟨g, 2, none⟩ = some x2 := by
 subst e
 exact ⟨cell_of_row w g 0 _ t (0, 0) h, cell_of_row w g 1 _ t (0, 0) h, cell_of_row w g 2 _ t (0, 0) h⟩
theorem zzf3 {w : World} {g : Nat} {t : TypeId} {cs : Array Value} (h : w.heap[g]? = some (.cells cs t (0, 0))) : w.frozen? ⟨g, 0, none⟩ = false ∧ w.frozen? ⟨g, 1, none⟩ = false ∧ w.frozen? ⟨g, 2, none⟩ = false := by
 simp [World.frozen?, h]
theorem zzc4 {w : World} {g : Nat} {t : TypeId} {cs : Array Value} (h : w.heap[g]? = some (.cells cs t (0, 0))) (x0 x1 x2 x3 : Value) (e : cs = #[x0, x1, x2, x3] := by rfl) : w.cell? ⟨g, 0, none⟩ = some x0 ∧ w.cell? ⟨g, 1, none⟩ = some x1 ∧ w.cell? ⟨g, 2, none⟩ = some x2 ∧ w.cell? ⟨g, 3, none⟩ = some x3 := by
 subst e
 exact ⟨cell_of_row w g 0 _ t (0, 0) h, cell_of_row w g 1 _ t (0, 0) h, cell_of_row w g 2 _ t (0, 0) h, cell_of_row w g 3 _ t (0, 0) h⟩
theorem zzf4 {w : World} {g : Nat} {t : TypeId} {cs : Array Value} (h : w.heap[g]? = some (.cells cs t (0, 0))) : w.frozen? ⟨g, 0, none⟩ = false ∧ w.frozen? ⟨g, 1, none⟩ = false ∧ w.frozen? ⟨g, 2, none⟩ = false ∧ w.frozen? ⟨g, 3, none⟩ = false := by
 simp [World.frozen?, h]
theorem zzc5 {w : World} {g : Nat} {t : TypeId} {cs : Array Value} (h : w.heap[g]? = some (.cells cs t (0, 0))) (x0 x1 x2 x3 x4 : Value) (e : cs = #[x0, x1, x2, x3, x4] := by rfl) : w.cell? ⟨g, 0, none⟩ = some x0 ∧ w.cell? ⟨g, 1, none⟩ = some x1 ∧ w.cell? ⟨g, 2, none⟩ = some x2 ∧ w.cell? ⟨g, 3, none⟩ = some x3 ∧ w.cell? ⟨g, 4, none⟩ = some x4 := by
 subst e
 exact ⟨cell_of_row w g 0 _ t (0, 0) h, cell_of_row w g 1 _ t (0, 0) h, cell_of_row w g 2 _ t (0, 0) h, cell_of_row w g 3 _ t (0, 0) h, cell_of_row w g 4 _ t (0, 0) h⟩
theorem zzf5 {w : World} {g : Nat} {t : TypeId} {cs : Array Value} (h : w.heap[g]? = some (.cells cs t (0, 0))) : w.frozen? ⟨g, 0, none⟩ = false ∧ w.frozen? ⟨g, 1, none⟩ = false ∧ w.frozen? ⟨g, 2, none⟩ = false ∧ w.frozen? ⟨g, 3, none⟩ = false ∧ w.frozen? ⟨g, 4, none⟩ = false := by
 simp [World.frozen?, h]
theorem zzc6 {w : World} {g : Nat} {t : TypeId} {cs : Array Value} (h : w.heap[g]? = some (.cells cs t (0, 0))) (x0 x1 x2 x3 x4 x5 : Value) (e : cs = #[x0, x1, x2, x3, x4, x5] := by rfl) : w.cell? ⟨g, 0, none⟩ = some x0 ∧ w.cell? ⟨g, 1, none⟩ = some x1 ∧ w.cell? ⟨g, 2, none⟩ = some x2 ∧ w.cell? ⟨g, 3, none⟩ = some x3 ∧ w.cell? ⟨g, 4, none⟩ = some x4 ∧ w.cell? ⟨g, 5, none⟩ = some x5 := by
 subst e
 exact ⟨cell_of_row w g 0 _ t (0, 0) h, cell_of_row w g 1 _ t (0, 0) h, cell_of_row w g 2 _ t (0, 0) h, cell_of_row w g 3 _ t (0, 0) h, cell_of_row w g 4 _ t (0, 0) h, cell_of_row w g 5 _ t (0, 0) h⟩
theorem zzf6 {w : World} {g : Nat} {t : TypeId} {cs : Array Value} (h : w.heap[g]? = some (.cells cs t (0, 0))) : w.frozen? ⟨g, 0, none⟩ = false ∧ w.frozen? ⟨g, 1, none⟩ = false ∧ w.frozen? ⟨g, 2, none⟩ = false ∧ w.frozen? ⟨g, 3, none⟩ = false ∧ w.frozen? ⟨g, 4, none⟩ = false ∧ w.frozen? ⟨g, 5, none⟩ = false := by
 simp [World.frozen?, h]
theorem zzc7 {w : World} {g : Nat} {t : TypeId} {cs : Array Value} (h : w.heap[g]? = some (.cells cs t (0, 0))) (x0 x1 x2 x3 x4 x5 x6 : Value) (e : cs = #[x0, x1, x2, x3, x4, x5, x6] := by rfl) : w.cell? ⟨g, 0, none⟩ = some x0 ∧ w.cell? ⟨g, 1, none⟩ = some x1 ∧ w.cell? ⟨g, 2, none⟩ = some x2 ∧ w.cell? ⟨g, 3, none⟩ = some x3 ∧ w.cell? ⟨g, 4, none⟩ = some x4 ∧ w.cell? ⟨g, 5, none⟩ = some x5 ∧ w.cell? ⟨g, 6, none⟩ = some x6 := by
 subst e
 exact ⟨cell_of_row w g 0 _ t (0, 0) h, cell_of_row w g 1 _ t (0, 0) h, cell_of_row w g 2 _ t (0, 0) h, cell_of_row w g 3 _ t (0, 0) h, cell_of_row w g 4 _ t (0, 0) h, cell_of_row w g 5 _ t (0, 0) h, cell_of_row w g 6 _ t (0, 0) h⟩
theorem zzf7 {w : World} {g : Nat} {t : TypeId} {cs : Array Value} (h : w.heap[g]? = some (.cells cs t (0, 0))) : w.frozen? ⟨g, 0, none⟩ = false ∧ w.frozen? ⟨g, 1, none⟩ = false ∧ w.frozen? ⟨g, 2, none⟩ = false ∧ w.frozen? ⟨g, 3, none⟩ = false ∧ w.frozen? ⟨g, 4, none⟩ = false ∧ w.frozen? ⟨g, 5, none⟩ = false ∧ w.frozen? ⟨g, 6, none⟩ = false := by
 simp [World.frozen?, h]
theorem zzc8 {w : World} {g : Nat} {t : TypeId} {cs : Array Value} (h : w.heap[g]? = some (.cells cs t (0, 0))) (x0 x1 x2 x3 x4 x5 x6 x7 : Value) (e : cs = #[x0, x1, x2, x3, x4, x5, x6, x7] := by rfl) : w.cell? ⟨g, 0, none⟩ = some x0 ∧ w.cell? ⟨g, 1, none⟩ = some x1 ∧ w.cell? ⟨g, 2, none⟩ = some x2 ∧ w.cell? ⟨g, 3, none⟩ = some x3 ∧ w.cell? ⟨g, 4, none⟩ = some x4 ∧ w.cell? ⟨g, 5, none⟩ = some x5 ∧ w.cell? ⟨g, 6, none⟩ = some x6 ∧ w.cell? ⟨g, 7, none⟩ = some x7 := by
 subst e
 exact ⟨cell_of_row w g 0 _ t (0, 0) h, cell_of_row w g 1 _ t (0, 0) h, cell_of_row w g 2 _ t (0, 0) h, cell_of_row w g 3 _ t (0, 0) h, cell_of_row w g 4 _ t (0, 0) h, cell_of_row w g 5 _ t (0, 0) h, cell_of_row w g 6 _ t (0, 0) h, cell_of_row w g 7 _ t (0, 0) h⟩
theorem zzf8 {w : World} {g : Nat} {t : TypeId} {cs : Array Value} (h : w.heap[g]? = some (.cells cs t (0, 0))) : w.frozen? ⟨g, 0, none⟩ = false ∧ w.frozen? ⟨g, 1, none⟩ = false ∧ w.frozen? ⟨g, 2, none⟩ = false ∧ w.frozen? ⟨g, 3, none⟩ = false ∧ w.frozen? ⟨g, 4, none⟩ = false ∧ w.frozen? ⟨g, 5, none⟩ = false ∧ w.frozen? ⟨g, 6, none⟩ = false ∧ w.frozen? ⟨g, 7, none⟩ = false := by
 simp [World.frozen?, h]
open Go.Proofs.YtekenddkoahjgaaW.PrintWords Go.Proofs.YtekenddkoahjgaaW.PrintLast Go.Proofs.YtekenddkoahjgaaW.PrintMore Go.RowKit in
theorem zzu {k : IntKind} {w : World} {b : Nat} {ok : Nat → Prop} {p : Int} {ps : List Int} {cs : List Value} (h : Reps (Kd.M (Kd.int k) w b ok) 1 ps cs) : Reps (Kd.M (Kd.int k) w b ok) 1 (p :: ps) (.int k p :: cs) := Reps.one (show Kd.M (Kd.int k) w b ok p [.int k p] from rfl) h
end Go.Proofs.Ytekenddkoahjgaa
