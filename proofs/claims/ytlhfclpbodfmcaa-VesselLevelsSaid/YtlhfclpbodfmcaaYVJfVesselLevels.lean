/- A part of the proof: JfVesselLevels. -/
import Derived.Test.YtlhfclpbodfmcaaRows
import Derived.ProofKit
namespace Go.Proofs.Ytlhfclpbodfmcaa.vesselLevels
open Go.RowKit
theorem closed : joinedFacts Try.pinned.checked.prog 3 Try.f3 Rows.vesselLevelsSpec Rows.vesselLevelsRow = true := by kernel_rfl
end Go.Proofs.Ytlhfclpbodfmcaa.vesselLevels
