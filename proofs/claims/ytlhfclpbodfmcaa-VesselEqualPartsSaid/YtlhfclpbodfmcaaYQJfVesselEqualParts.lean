/- A part of the proof: JfVesselEqualParts. -/
import Derived.Test.YtlhfclpbodfmcaaRows
import Derived.ProofKit
namespace Go.Proofs.Ytlhfclpbodfmcaa.vesselEqualParts
open Go.RowKit
theorem closed : joinedFacts Try.pinned.checked.prog 15 Try.f15 Rows.vesselEqualPartsSpec Rows.vesselEqualPartsRow = true := by kernel_rfl
end Go.Proofs.Ytlhfclpbodfmcaa.vesselEqualParts
