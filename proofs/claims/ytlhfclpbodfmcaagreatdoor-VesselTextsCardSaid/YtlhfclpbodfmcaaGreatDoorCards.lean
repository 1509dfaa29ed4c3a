/-
  DERIVED. GIVEN WITH THE SEED: THE CARDS: each row of YtlhfclpbodfmcaaGreatDoorRows.lean that lists a variable, with what it lists TIED to the program's text (the seventh form; the later family's looks); each row that meets fmt, with fmt's text TOLD by the authors' own Lean function (tested against real Go, not proved from fmt's source: count such statements apart). THE CARD IS WHAT COUNTS. Prove the row's statement (the work); the ties are given (YtlhfclpbodfmcaaGreatDoorTie.lean); close each card by the builder's one call (the guide's Derived/Test/ToyasCard.lean, 'card_holds'). Laid BY PROGRAM, IN A SANDBOX (cutbox-door.mjs). By AI agents, Wed Nov 11 2026. No macro, syntax, notation, axiom, sorry.
-/
import Derived.Test.YtlhfclpbodfmcaaGreatDoorRows
import GoSem.ClaimSeven
namespace Go.Proofs.YtlhfclpbodfmcaaGreatDoor
namespace Rows

/-- THE TIED CARD OF 'waterhourlaw02.VesselTexts'. -/
def vesselTextsCard : Claim7 := { stood := { row := vesselTextsRow, standIns := [], harness := (true, "64a78b88aef67a6a6a87299760b3be1434151ba2c92a033039ed9fb8428be0ef"), looks := true }, kinds := [], alts := [], laidByText := true, laidKinds := [.data, .data, .data, .data, .sentinel, .sentinel, .pinned], laidTests := true, laidLooks := .later }
def VesselTextsCardSaid : Prop := Claim7.holds Tryz.pinned (.plain (OpenSpec.ofChange vesselTextsSpec)) vesselTextsCard

/-- THE SECOND FORM's CARD OF 'waterhourlaw02.VesselTexts'. -/
def vesselTextsUptoCard : Claim7 := { stood := { row := vesselTextsUptoRow, standIns := [], harness := (true, "64a78b88aef67a6a6a87299760b3be1434151ba2c92a033039ed9fb8428be0ef"), looks := true }, kinds := [], alts := [], laidByText := true, laidKinds := [.data, .data, .data, .data, .sentinel, .sentinel, .pinned], laidTests := true, laidLooks := .later }
def VesselTextsUptoCardSaid : Prop := Claim7.holds Tryz.pinned (.plain (OpenSpec.upto vesselTextsSpec)) vesselTextsUptoCard
end Rows
end Go.Proofs.YtlhfclpbodfmcaaGreatDoor
