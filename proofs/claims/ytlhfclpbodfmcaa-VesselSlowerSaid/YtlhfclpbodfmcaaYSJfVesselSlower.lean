/- A part of the proof: JfVesselSlower. -/
import Derived.Test.YtlhfclpbodfmcaaRows
import Derived.ProofKit
namespace Go.Proofs.Ytlhfclpbodfmcaa.vesselSlower
open Go.RowKit
theorem closed : joinedFacts Try.pinned.checked.prog 16 Try.f16 Rows.vesselSlowerSpec Rows.vesselSlowerRow = true := by kernel_rfl
end Go.Proofs.Ytlhfclpbodfmcaa.vesselSlower
