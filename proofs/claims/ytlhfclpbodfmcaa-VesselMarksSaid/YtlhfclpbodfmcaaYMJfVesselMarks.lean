/- A part of the proof: JfVesselMarks. -/
import Derived.Test.YtlhfclpbodfmcaaRows
import Derived.ProofKit
namespace Go.Proofs.Ytlhfclpbodfmcaa.vesselMarks
open Go.RowKit
theorem closed : joinedFacts Try.pinned.checked.prog 13 Try.f13 Rows.vesselMarksSpec Rows.vesselMarksRow = true := by kernel_rfl
end Go.Proofs.Ytlhfclpbodfmcaa.vesselMarks
