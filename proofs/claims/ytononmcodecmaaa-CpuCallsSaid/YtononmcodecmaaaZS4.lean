import Derived.Test.YtononmcodecmaaaProg
import Derived.Sort.Walk13
import Derived.Sort.Walk11
import Derived.Sort.Walk7
import Derived.Sort.WalkC4
import Derived.Sort.AssemblyPlain
import Derived.KernelRfl
import Derived.Lib.Strings
import Derived.Lib.Slices
import Derived.Lib.Small
import Derived.Lib.Walk
import Derived.Lib.BitFns
section
/- The sort's walks at []uint32: what slices.Sort does to a row of whole numbers of 32 bits (no condition but that the row is shorter than 2^62). -/
namespace Go.Proofs.Ytononmcodecmaaa.Srt
set_option maxRecDepth 100000
open Go.RowKit Go.Sort Go.Proofs
set_option linter.unusedVariables false
set_option linter.unusedSimpArgs false
end Go.Proofs.Ytononmcodecmaaa.Srt
end

section
/- How many bits a whole number has: math/bits.Len (no condition but that it is one of 64 bits). -/
namespace Go.Proofs.Ytononmcodecmaaa.Srt
set_option maxRecDepth 100000
open Go.Proofs
end Go.Proofs.Ytononmcodecmaaa.Srt
end

section
/- The sort's walks at []uint32: what slices.Sort does to a row of whole numbers of 32 bits (no condition but that the row is shorter than 2^62). -/
namespace Go.Proofs.Ytononmcodecmaaa.Srt
set_option maxRecDepth 100000
open Go.RowKit Go.Sort Go.Proofs
set_option linter.unusedVariables false
set_option linter.unusedSimpArgs false
end Go.Proofs.Ytononmcodecmaaa.Srt
end

section
/- The sort's walks at []uint32: what slices.Sort does to a row of whole numbers of 32 bits (no condition but that the row is shorter than 2^62). -/
namespace Go.Proofs.Ytononmcodecmaaa.Srt
set_option maxRecDepth 100000
open Go.RowKit Go.Sort Go.Proofs
set_option linter.unusedVariables false
set_option linter.unusedSimpArgs false
end Go.Proofs.Ytononmcodecmaaa.Srt
end

section
/- The sort's walks at []uint32: what slices.Sort does to a row of whole numbers of 32 bits (no condition but that the row is shorter than 2^62). -/
namespace Go.Proofs.Ytononmcodecmaaa.Srt
set_option maxRecDepth 100000
open Go.RowKit Go.Sort Go.Proofs
set_option linter.unusedVariables false
set_option linter.unusedSimpArgs false
end Go.Proofs.Ytononmcodecmaaa.Srt
end
