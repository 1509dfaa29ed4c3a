/- A part of the proof: JfVesselRings. -/
import Derived.Test.YtlhfclpbodfmcaaRows
import Derived.ProofKit
namespace Go.Proofs.Ytlhfclpbodfmcaa.vesselRings
open Go.RowKit
theorem closed : joinedFacts Try.pinned.checked.prog 14 Try.f14 Rows.vesselRingsSpec Rows.vesselRingsRow = true := by kernel_rfl
end Go.Proofs.Ytlhfclpbodfmcaa.vesselRings
