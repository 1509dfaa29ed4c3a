/- A part of the proof: JfVesselFaster. -/
import Derived.Test.YtlhfclpbodfmcaaRows
import Derived.ProofKit
namespace Go.Proofs.Ytlhfclpbodfmcaa.vesselFaster
open Go.RowKit
theorem closed : joinedFacts Try.pinned.checked.prog 9 Try.f9 Rows.vesselFasterSpec Rows.vesselFasterRow = true := by kernel_rfl
end Go.Proofs.Ytlhfclpbodfmcaa.vesselFaster
