/- A part of the proof: JfVesselLarger. -/
import Derived.Test.YtlhfclpbodfmcaaRows
import Derived.ProofKit
namespace Go.Proofs.Ytlhfclpbodfmcaa.vesselLarger
open Go.RowKit
theorem closed : joinedFacts Try.pinned.checked.prog 11 Try.f11 Rows.vesselLargerSpec Rows.vesselLargerRow = true := by kernel_rfl
end Go.Proofs.Ytlhfclpbodfmcaa.vesselLarger
