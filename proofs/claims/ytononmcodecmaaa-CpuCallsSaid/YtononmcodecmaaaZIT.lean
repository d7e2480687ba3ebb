import Derived.Test.YtononmcodecmaaaZS4
import Derived.Shelf.SlIter.Collect
import Derived.Shelf.AbstractIn
import Derived.RangeFuncSeq
import Derived.RangeFuncBound
import Derived.RangeFuncGives
import Derived.Sort.MapsRangeIn
import Derived.Sort.KeysCollected
import Derived.Sort.OwnSorted
import Derived.Maps.AppendAt
import Derived.Shelf.Abstract
import Derived.WalkKit
import Derived.OwnWalkIn
import Derived.TacticsInMore
import Derived.RegionIn
import Derived.LoopNIn
import Derived.LoopIn
import Derived.KernelRfl
import Derived.Laws.Externs
import Derived.MapKept
import Derived.Shelf.SlMaps.Clone
/- maps.Keys of a map[uint32]uint8, slices.Collect, slices.AppendSeq, slices.Sorted, maps.Clone: what they answer (of maps whose keys' bytes are fewer than 2^47). -/
namespace Go.Proofs.Ytononmcodecmaaa.It
set_option maxRecDepth 100000
open Go.RowKit Go.Maps Go.Sort Go.Shelf Go.Proofs Go.Proofs.Ytononmcodecmaaa.Srt
set_option linter.unusedVariables false
set_option linter.unusedSimpArgs false
theorem infoU : (Try.prog.info? 22).map (fun i => (i.zero, i.size, i.bytes)) = some (some (.int .u32 0), 1, 4) := by kernel_rfl
def CollectedU {H : Type} (D0 : DataW H) (left : Lit → Bool) (ss : List Int) : Prop := ss.Nodup ∧ ∀ x, x ∈ ss ↔ (has D0 (.int .u32 x) = true ∧ left (.int .u32 x) = false)
section
variable {H : Type} {D0 : DataW H} {left : Lit → Bool} {ss : List Int}
theorem CollectedU.step (h : CollectedU D0 left ss) {x : Int} {y : DataW H} (hlk : left (.int .u32 x) = true) (hat : ∀ zd, D0.atKey (.int .u32 x) zd = y) : CollectedU D0 (fun z => left z && !z.sameKey (.int .u32 x)) (ss ++ [x]) := by
  have hhas : has D0 (.int .u32 x) = true := has_true_of_atKey hat
  have hnew : x ∉ ss := fun hx => by have := ((h.2 x).1 hx).2; rw [hlk] at this; cases this
  refine ⟨List.nodup_append.2 ⟨h.1, by simp, fun a ha b hb => by simp at hb; subst hb; exact fun e => hnew (e ▸ ha)⟩, fun y => ?_⟩
  by_cases hy : y = x
  · subst hy; simp [hhas, Lit.sameKey]
  · simp [h.2 y, hy, Lit.sameKey]
variable {P : Program} {k : TypeId} {R : Value → Option (DataW H × List MemPlace)} {w : World} {b n : Nat}
end
end Go.Proofs.Ytononmcodecmaaa.It
