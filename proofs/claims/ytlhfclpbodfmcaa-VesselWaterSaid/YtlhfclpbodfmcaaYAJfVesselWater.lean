/- A part of the proof: JfVesselWater. -/
import Derived.Test.YtlhfclpbodfmcaaRows
import Derived.ProofKit
namespace Go.Proofs.Ytlhfclpbodfmcaa.vesselWater
open Go.RowKit
theorem closed : joinedFacts Try.pinned.checked.prog 18 Try.f18 Rows.vesselWaterSpec Rows.vesselWaterRow = true := by kernel_rfl
end Go.Proofs.Ytlhfclpbodfmcaa.vesselWater
