/- A part of the proof: JfVesselCascade. -/
import Derived.Test.YtlhfclpbodfmcaaRows
import Derived.ProofKit
namespace Go.Proofs.Ytlhfclpbodfmcaa.vesselCascade
open Go.RowKit
theorem closed : joinedFacts Try.pinned.checked.prog 10 Try.f10 Rows.vesselCascadeSpec Rows.vesselCascadeRow = true := by kernel_rfl
end Go.Proofs.Ytlhfclpbodfmcaa.vesselCascade
