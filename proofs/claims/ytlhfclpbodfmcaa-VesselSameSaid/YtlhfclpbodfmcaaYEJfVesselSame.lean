/- A part of the proof: JfVesselSame. -/
import Derived.Test.YtlhfclpbodfmcaaRows
import Derived.ProofKit
namespace Go.Proofs.Ytlhfclpbodfmcaa.vesselSame
open Go.RowKit
theorem closed : joinedFacts Try.pinned.checked.prog 17 Try.f17 Rows.vesselSameSpec Rows.vesselSameRow = true := by kernel_rfl
end Go.Proofs.Ytlhfclpbodfmcaa.vesselSame
