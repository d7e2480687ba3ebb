import Derived.Test.YtekenddkoahjgaaHQx5
import Derived.Test.YtekenddkoahjgaaHQx9
import Derived.Test.YtekenddkoahjgaaHLA
/- Layer 2: the encoding, as plain definitions. -/
namespace Go.Proofs.Ytekenddkoahjgaa.Q
open Go.RowKit Go.Proofs.YtekenddkoahjgaaW.PrintWords Go.Proofs.YtekenddkoahjgaaW.PrintLast Go.Proofs.YtekenddkoahjgaaW.PrintMore
set_option linter.unusedVariables false
set_option linter.unusedSimpArgs false
def inst_told.f (k : Nat) (a0 a1 : Int) : Option Int :=
 if a0 = 85 then some ((a1 * 4096) % 4294967296)
 else if a0 = 74 then (word_Field.f k a1 20 1).bind fun t1 => (word_Field.f k a1 12 8).bind fun t2 => (word_Field.f k a1 11 1).bind fun t3 => (word_Field.f k a1 1 10).bind fun t4 => some (Go.bits .or .u32 (Go.bits .or .u32 (Go.bits .or .u32 (shl .u32 t1 31) (shl .u32 t2 12)) (shl .u32 t3 20)) (shl .u32 t4 21))
 else if a0 = 73 then some ((a1 * 1048576) % 4294967296)
 else if a0 = 72 then some ((a1 * 1048576) % 4294967296)
 else if a0 = 83 then (word_Field.f k a1 5 7).bind fun t1 => (word_Field.f k a1 0 5).bind fun t2 => some (Go.bits .or .u32 (shl .u32 t1 25) (shl .u32 t2 7))
 else if a0 = 66 then (word_Field.f k a1 12 1).bind fun t1 => (word_Field.f k a1 11 1).bind fun t2 => (word_Field.f k a1 5 6).bind fun t3 => (word_Field.f k a1 1 4).bind fun t4 => some (Go.bits .or .u32 (Go.bits .or .u32 (Go.bits .or .u32 (shl .u32 t1 31) (shl .u32 t2 7)) (shl .u32 t3 25)) (shl .u32 t4 8))
 else some 0
theorem inst_told.mono : ∀ a0 a1 k, LeO (inst_told.f k a0 a1) (inst_told.f (k + 1) a0 a1) := by
 intro a0 a1 k
 unfold inst_told.f
 repeat' first
   | (with_reducible exact word_Field.mono _ _ _ _)
   | (with_reducible exact LeO.refl _)
   | (with_reducible refine LeO.ite ?_ ?_)
   | (with_reducible refine LeO.bind ?_ (fun _ => ?_))
set_option maxHeartbeats 800000 in
set_option maxRecDepth 100000 in
def inst_Encode.f (k : Nat) (a0 a1 a2 a3 a4 : Int) : Option (Int × Int) :=
 (inst_Right.f k a0 a1 a2 a3 a4).bind fun t => if t = true then (if a0 = 45 then some (115, 0) else (if a0 = 46 then some (1048691, 0) else
  (if 0 ≤ a0 ∧ a0 < 47 then (inst_told.f k (kGet a0.toNat).1 (a4 % 4294967296)).bind fun tt => (inst_has.f k (kGet a0.toNat).1).bind fun hh =>
   (some (Go.bits .or .u32 (Go.bits .or .u32 (Go.bits .or .u32 (Go.bits .or .u32 (kGet a0.toNat).2.1 (((kGet a0.toNat).2.2.1 * 4096) % 4294967296)) (((kGet a0.toNat).2.2.2 * 33554432) % 4294967296)) (((a2 % 4294967296) * 32768) % 4294967296)) tt)).bind fun w0 =>
   (some (if hh.1 = true then Go.bits .or .u32 w0 (((a1 % 4294967296) * 128) % 4294967296) else w0)).bind fun w1 =>
   some (if hh.2.2 = true then Go.bits .or .u32 w1 (((a3 % 4294967296) * 1048576) % 4294967296) else w1, 0) else none))) else some (0, 20)
theorem inst_Encode.mono : ∀ a0 a1 a2 a3 a4 k, LeO (inst_Encode.f k a0 a1 a2 a3 a4) (inst_Encode.f (k + 1) a0 a1 a2 a3 a4) := by
 intro a0 a1 a2 a3 a4 k
 unfold inst_Encode.f
 repeat' first
   | (with_reducible exact inst_Right.mono _ _ _ _ _ _)
   | (with_reducible exact inst_told.mono _ _ _)
   | (with_reducible exact inst_has.mono _ _)
   | (with_reducible exact LeO.refl _)
   | (with_reducible refine LeO.ite ?_ ?_)
   | (with_reducible refine LeO.bind ?_ (fun _ => ?_))
end Go.Proofs.Ytekenddkoahjgaa.Q
