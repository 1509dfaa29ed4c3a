/- A part of the proof: JfVesselBothWays. -/
import Derived.Test.YtlhfclpbodfmcaaRows
import Derived.ProofKit
namespace Go.Proofs.Ytlhfclpbodfmcaa.vesselBothWays
open Go.RowKit
theorem closed : joinedFacts Try.pinned.checked.prog 6 Try.f6 Rows.vesselBothWaysSpec Rows.vesselBothWaysRow = true := by kernel_rfl
end Go.Proofs.Ytlhfclpbodfmcaa.vesselBothWays
