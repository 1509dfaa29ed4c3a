/- A part of the proof: JfVesselCurves. -/
import Derived.Test.YtlhfclpbodfmcaaRows
import Derived.ProofKit
namespace Go.Proofs.Ytlhfclpbodfmcaa.vesselCurves
open Go.RowKit
theorem closed : joinedFacts Try.pinned.checked.prog 7 Try.f7 Rows.vesselCurvesSpec Rows.vesselCurvesRow = true := by kernel_rfl
end Go.Proofs.Ytlhfclpbodfmcaa.vesselCurves
