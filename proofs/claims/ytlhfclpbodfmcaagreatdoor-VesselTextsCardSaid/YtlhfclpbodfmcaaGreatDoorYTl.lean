/- What the form asks of the program's text at VesselTexts, reckoned. -/
import Derived.Test.YtlhfclpbodfmcaaGreatDoorRows
import Derived.ProofKit
namespace Go.Proofs.YtlhfclpbodfmcaaGreatDoor.vesselTexts
open Go.RowKit
theorem closed : joinedFacts Tryz.pinned.checked.prog 3 Tryz.f3 (OpenSpec.ofChange Rows.vesselTextsSpec).bare Rows.vesselTextsRow = true := by kernel_rfl
end Go.Proofs.YtlhfclpbodfmcaaGreatDoor.vesselTexts
