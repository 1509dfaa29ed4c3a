/- A part of the proof: JfVesselVolumes. -/
import Derived.Test.YtlhfclpbodfmcaaRows
import Derived.ProofKit
namespace Go.Proofs.Ytlhfclpbodfmcaa.vesselVolumes
open Go.RowKit
theorem closed : joinedFacts Try.pinned.checked.prog 4 Try.f4 Rows.vesselVolumesSpec Rows.vesselVolumesRow = true := by kernel_rfl
end Go.Proofs.Ytlhfclpbodfmcaa.vesselVolumes
