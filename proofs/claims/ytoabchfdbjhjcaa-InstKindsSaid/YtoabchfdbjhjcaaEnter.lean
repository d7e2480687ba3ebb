import Derived.Test.YtoabchfdbjhjcaaRows
import Derived.Test.YtoabchfdbjhjcaaChecked
import Derived.JoinedOf
import Derived.WalkKit
import Derived.KernelRfl
namespace Go.Proofs.Ytoabchfdbjhjcaa.Enter
open Go.RowKit
/-- The head's signs. -/
def tail : List Char := ['a', 't', ' ', 'w', 'h', 'e', 't', 's', 't', 'o', 'n', 'e', '/', 'w', 'h', 'e', 't', 's', 't', 'o', 'n', 'e', 'l', 'a', 'w', '0', '2', '.', 'I', 'n', 's', 't', 'D', 'e', 'c', 'o', 'd', 'e', 's', ' ', 'w', 'h', 'e', 't', 's', 't', 'o', 'n', 'e', '/', 'w', 'h', 'e', 't', 's', 't', 'o', 'n', 'e', 'l', 'a', 'w', '0', '2', '.', 'I', 'n', 's', 't', 'E', 'n', 'c', 'o', 'd', 'e', 's', ' ', 'w', 'h', 'e', 't', 's', 't', 'o', 'n', 'e', '/', 'w', 'h', 'e', 't', 's', 't', 'o', 'n', 'e', 'l', 'a', 'w', '0', '2', '.', 'I', 'n', 's', 't', 'B', 'a', 'c', 'k', ' ', 'w', 'h', 'e', 't', 's', 't', 'o', 'n', 'e', '/', 'w', 'h', 'e', 't', 's', 't', 'o', 'n', 'e', 'l', 'a', 'w', '0', '2', '.', 'I', 'n', 's', 't', 'K', 'i', 'n', 'd', 's', ' ', 'w', 'h', 'e', 't', 's', 't', 'o', 'n', 'e', '/', 'w', 'h', 'e', 't', 's', 't', 'o', 'n', 'e', 'l', 'a', 'w', '0', '2', '.', 'I', 'n', 's', 't', 'B', 'i', 't', 's', ' ', 'w', 'h', 'e', 't', 's', 't', 'o', 'n', 'e', '/', 'w', 'h', 'e', 't', 's', 't', 'o', 'n', 'e', 'l', 'a', 'w', '0', '2', '.', 'I', 'n', 's', 't', 'S', 't', 'e', 'p', 's', ' ', 'w', 'h', 'e', 't', 's', 't', 'o', 'n', 'e', '/', 'w', 'h', 'e', 't', 's', 't', 'o', 'n', 'e', 'l', 'a', 'w', '0', '2', '.', 'I', 'n', 's', 't', 'T', 'u', 'r', 'n', 'e', 'd', ' ', 'w', 'h', 'e', 't', 's', 't', 'o', 'n', 'e', '/', 'w', 'h', 'e', 't', 's', 't', 'o', 'n', 'e', 'l', 'a', 'w', '0', '2', '.', 'I', 'n', 's', 't', 'F', 'o', 'r', 'm', 's', ' ', 'w', 'h', 'e', 't', 's', 't', 'o', 'n', 'e', '/', 'w', 'h', 'e', 't', 's', 't', 'o', 'n', 'e', 'l', 'a', 'w', '0', '2', '.', 'I', 'n', 's', 't', 'P', 'l', 'a', 'i', 'n', ' ', 'w', 'h', 'e', 't', 's', 't', 'o', 'n', 'e', '/', 'w', 'h', 'e', 't', 's', 't', 'o', 'n', 'e', 'l', 'a', 'w', '1', '8', '.', 'G', 'r', 'a', 'm', 'm', 'a', 'r', 'C', 'o', 's', 't', 's', ' ', 'w', 'h', 'e', 't', 's', 't', 'o', 'n', 'e', '/', 'w', 'h', 'e', 't', 's', 't', 'o', 'n', 'e', 'l', 'a', 'w', '1', '8', '.', 'G', 'r', 'a', 'm', 'm', 'a', 'r', 'I', 'n', 's', 't', 's', ' ', 'w', 'h', 'e', 't', 's', 't', 'o', 'n', 'e', '/', 'w', 'h', 'e', 't', 's', 't', 'o', 'n', 'e', 'l', 'a', 'w', '1', '8', '.', 'G', 'r', 'a', 'm', 'm', 'a', 'r', 'R', 'u', 'n', 's', ' ', 'w', 'h', 'e', 't', 's', 't', 'o', 'n', 'e', '/', 'w', 'h', 'e', 't', 's', 't', 'o', 'n', 'e', 'l', 'a', 'w', '1', '8', '.', 'G', 'r', 'a', 'm', 'm', 'a', 'r', 'B', 'i', 'g', ' ', 'w', 'h', 'e', 't', 's', 't', 'o', 'n', 'e', '/', 'w', 'h', 'e', 't', 's', 't', 'o', 'n', 'e', 'l', 'a', 'w', '1', '8', '.', 'G', 'r', 'a', 'm', 'm', 'a', 'r', 'O', 'n', 'c', 'e', ' ', 'w', 'h', 'e', 't', 's', 't', 'o', 'n', 'e', '/', 'w', 'h', 'e', 't', 's', 't', 'o', 'n', 'e', 'l', 'a', 'w', '1', '8', '.', 'G', 'r', 'a', 'm', 'm', 'a', 'r', 'N', 'o', 'n', 'e', ' ', 'w', 'h', 'e', 't', 's', 't', 'o', 'n', 'e', '/', 'w', 'h', 'e', 't', 's', 't', 'o', 'n', 'e', 'l', 'a', 'w', '1', '8', '.', 'G', 'r', 'a', 'm', 'm', 'a', 'r', 'T', 'w', 'i', 'c', 'e', ' ', 'w', 'h', 'e', 't', 's', 't', 'o', 'n', 'e', '/', 'w', 'h', 'e', 't', 's', 't', 'o', 'n', 'e', 'l', 'a', 'w', '1', '8', '.', 'G', 'r', 'a', 'm', 'm', 'a', 'r', 'S', 'u', 'm', 's', ' ', 'w', 'h', 'e', 't', 's', 't', 'o', 'n', 'e', '/', 'w', 'h', 'e', 't', 's', 't', 'o', 'n', 'e', 'l', 'a', 'w', '0', '3', '.', 'M', 'e', 'm', 'A', 'p', 'a', 'r', 't', ' ', 'w', 'h', 'e', 't', 's', 't', 'o', 'n', 'e', '/', 'w', 'h', 'e', 't', 's', 't', 'o', 'n', 'e', 'l', 'a', 'w', '0', '3', '.', 'M', 'e', 'm', 'B', 'a', 'c', 'k', ' ', 'w', 'h', 'e', 't', 's', 't', 'o', 'n', 'e', '/', 'w', 'h', 'e', 't', 's', 't', 'o', 'n', 'e', 'l', 'a', 'w', '0', '3', '.', 'M', 'e', 'm', 'C', 'e', 'l', 'l', 's', ' ', 'w', 'h', 'e', 't', 's', 't', 'o', 'n', 'e', '/', 'w', 'h', 'e', 't', 's', 't', 'o', 'n', 'e', 'l', 'a', 'w', '0', '3', '.', 'M', 'e', 'm', 'S', 'p', 'l', 'i', 't', ' ', 'w', 'h', 'e', 't', 's', 't', 'o', 'n', 'e', '/', 'w', 'h', 'e', 't', 's', 't', 'o', 'n', 'e', 'l', 'a', 'w', '0', '3', '.', 'M', 'e', 'm', 'D', 'o', 'e', 's', ' ', 'w', 'h', 'e', 't', 's', 't', 'o', 'n', 'e', '/', 'w', 'h', 'e', 't', 's', 't', 'o', 'n', 'e', 'l', 'a', 'w', '0', '3', '.', 'M', 'e', 'm', 'Z', 'e', 'r', 'o', ' ', 'w', 'h', 'e', 't', 's', 't', 'o', 'n', 'e', '/', 'w', 'h', 'e', 't', 's', 't', 'o', 'n', 'e', 'l', 'a', 'w', '0', '4', '.', 'C', 'p', 'u', 'D', 'o', 'e', 's', ' ', 'w', 'h', 'e', 't', 's', 't', 'o', 'n', 'e', '/', 'w', 'h', 'e', 't', 's', 't', 'o', 'n', 'e', 'l', 'a', 'w', '0', '4', '.', 'C', 'p', 'u', 'C', 'a', 'l', 'l', 's', ' ', 'w', 'h', 'e', 't', 's', 't', 'o', 'n', 'e', '/', 'w', 'h', 'e', 't', 's', 't', 'o', 'n', 'e', 'l', 'a', 'w', '0', '4', '.', 'C', 'p', 'u', 'S', 't', 'a', 'y', 's', ' ', 'w', 'h', 'e', 't', 's', 't', 'o', 'n', 'e', '/', 'w', 'h', 'e', 't', 's', 't', 'o', 'n', 'e', 'l', 'a', 'w', '0', '4', '.', 'C', 'p', 'u', 'P', 'l', 'a', 'i', 'n', ' ', 'w', 'h', 'e', 't', 's', 't', 'o', 'n', 'e', '/', 'w', 'h', 'e', 't', 's', 't', 'o', 'n', 'e', 'l', 'a', 'w', '0', '4', '.', 'C', 'p', 'u', 'P', 'a', 'r', 't', 's', ' ', 'w', 'h', 'e', 't', 's', 't', 'o', 'n', 'e', '/', 'w', 'h', 'e', 't', 's', 't', 'o', 'n', 'e', 'l', 'a', 'w', '0', '4', '.', 'C', 'p', 'u', 'F', 'u', 'e', 'l']
def w1 : List Char := ['h', 'a', 'r', 'n', 'e', 's', 's']
def w2 : List Char := ['e', '2', '5', 'e', '6', 'f', 'f', '4', 'a', '0', '4', 'f', 'a', '7', '6', '7', 'd', '9', 'f', '2', '6', '0', 'a', '1', 'f', '4', 'c', '1', '8', '1', '5', 'b', 'a', '8', 'f', 'b', 'f', '9', 'b', 'e', '5', '1', '6', 'e', '4', 'e', 'b', 'f', '8', '7', 'f', 'a', '4', '7', '7', '3', 'f', '6', '3', '5', 'c', '7', 'a', 'e']
def w3 : List Char := ['c', 'u', 't']
def chars : List Char := w1 ++ ' ' :: (w2 ++ ' ' :: (w3 ++ ' ' :: tail))
theorem order : Try.pinned.checked.prog.initOrder = String.ofList chars := by kernel_rfl
theorem toL : Try.pinned.checked.prog.initOrder.toList = chars := (congrArg String.toList order).trans String.toList_ofList

theorem ws_app (w r : List Char) (h : w.all (· != ' ') = true) : wordsSigns (w ++ ' ' :: r) = w :: wordsSigns r := by
  induction w with
  | nil => rfl
  | cons c w ih =>
    rw [List.all_cons, Bool.and_eq_true] at h
    have hc : c ≠ ' ' := by simpa using h.1
    have e : wordsSigns ((c :: w) ++ ' ' :: r) = match wordsSigns (w ++ ' ' :: r) with | w :: ws => (c :: w) :: ws | [] => [[c]] := by
      rw [List.cons_append]
      conv => lhs; unfold wordsSigns
      split
      · rename_i hh; cases hh
      · rename_i hh; exact absurd (List.cons.inj hh).1 hc
      · rename_i hh; obtain ⟨rfl, rfl⟩ := List.cons.inj hh; rfl
    rw [e, ih h.2]
theorem words : wordsSigns Try.pinned.checked.prog.initOrder.toList = w1 :: w2 :: w3 :: wordsSigns tail := by
  rw [toL]; unfold chars
  rw [ws_app w1 _ (by decide), ws_app w2 _ (by decide), ws_app w3 _ (by decide)]
theorem behind : behindMainWord (wordsSigns Try.pinned.checked.prog.initOrder.toList) = w3 :: wordsSigns tail := by
  rw [words]
  generalize wordsSigns tail = t
  kernel_rfl
theorem strip (t : List (List Char)) : stripLifts liftWords (w3 :: t) = ([], w3 :: t) := by kernel_rfl
theorem g1 : (w3 == "gc".toList || w3 == "spec".toList) = false := by kernel_rfl
theorem g2 : (w3 == "cut".toList) = true := by kernel_rfl
theorem g3 : (w3 == "carried".toList) = false := by kernel_rfl
theorem g4 (t : List (List Char)) : ((w3 :: t).head? == some "cut".toList) = true := by kernel_rfl
theorem later : Try.pinned.checked.prog.laysLater = false := by kernel_rfl
theorem reflects : Try.pinned.checked.prog.bearsReflect = false := by kernel_rfl
theorem door : Try.pinned.checked.prog.doorFits [] = true := by kernel_rfl
theorem make_of (P : Program) (t : List (List Char)) (h : behindMainWord (wordsSigns P.initOrder.toList) = w3 :: t) : P.make = some .cut := by
  unfold Program.make; rw [h]; simp only [g1, g2, Bool.true_or, Bool.false_eq_true, if_false, if_true]
theorem lifts_of (P : Program) (t : List (List Char)) (h : behindMainWord (wordsSigns P.initOrder.toList) = w3 :: t) : P.headLifts = [] := by
  unfold Program.headLifts; rw [h, strip]; simp only [g4, if_true]
theorem lift_of (P : Program) (t : List (List Char)) (h : behindMainWord (wordsSigns P.initOrder.toList) = w3 :: t) : P.liftsFinal = false := by
  unfold Program.liftsFinal; rw [h, lifts_of P t h]; kernel_rfl
theorem enter_of (P : Program) (t : List (List Char)) (h : behindMainWord (wordsSigns P.initOrder.toList) = w3 :: t) (later : P.laysLater = false) (reflects : P.bearsReflect = false) (door : P.doorFits [] = true) : P.mayEnter = true := by
  unfold Program.mayEnter; rw [h]; simp only [strip, g1, g3, g4, later, reflects, door, Bool.false_and, Bool.false_or, Bool.not_false, Bool.or_true, Bool.and_true, Bool.true_and]
  rfl
theorem make : Try.pinned.checked.prog.make = some .cut := make_of _ _ behind
theorem lift : Try.pinned.checked.prog.liftsFinal = false := lift_of _ _ behind
theorem enter : Try.pinned.checked.prog.mayEnter = true := enter_of _ _ behind later reflects door
end Go.Proofs.Ytoabchfdbjhjcaa.Enter
