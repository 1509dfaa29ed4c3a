/- A part of the proof: JfVesselForms. -/
import Derived.Test.YtlhfclpbodfmcaaRows
import Derived.ProofKit
namespace Go.Proofs.Ytlhfclpbodfmcaa.vesselForms
open Go.RowKit
theorem closed : joinedFacts Try.pinned.checked.prog 12 Try.f12 Rows.vesselFormsSpec Rows.vesselFormsRow = true := by kernel_rfl
end Go.Proofs.Ytlhfclpbodfmcaa.vesselForms
