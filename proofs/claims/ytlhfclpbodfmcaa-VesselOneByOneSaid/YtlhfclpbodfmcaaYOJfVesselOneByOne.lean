/- A part of the proof: JfVesselOneByOne. -/
import Derived.Test.YtlhfclpbodfmcaaRows
import Derived.ProofKit
namespace Go.Proofs.Ytlhfclpbodfmcaa.vesselOneByOne
open Go.RowKit
theorem closed : joinedFacts Try.pinned.checked.prog 8 Try.f8 Rows.vesselOneByOneSpec Rows.vesselOneByOneRow = true := by kernel_rfl
end Go.Proofs.Ytlhfclpbodfmcaa.vesselOneByOne
