/- A part of the proof: JfVesselTwo. -/
import Derived.Test.YtlhfclpbodfmcaaRows
import Derived.ProofKit
namespace Go.Proofs.Ytlhfclpbodfmcaa.vesselTwo
open Go.RowKit
theorem closed : joinedFacts Try.pinned.checked.prog 5 Try.f5 Rows.vesselTwoSpec Rows.vesselTwoRow = true := by kernel_rfl
end Go.Proofs.Ytlhfclpbodfmcaa.vesselTwo
