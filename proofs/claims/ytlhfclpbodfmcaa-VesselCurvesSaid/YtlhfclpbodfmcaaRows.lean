/-
  No cell of these rows narrows 'for every input' (looked for: loops, veiled, ifaces, maps, wideKeys, modest, calm, conditions, laid).
  DERIVED. THE GIVEN ROWS OF THIS SEAT. 16 by the template 'for every input the law returns true; each argument reads behind the call as it read before'; 0 by the template 'total and deterministic' (their statements: YtlhfclpbodfmcaaTotals.lean).
  GIVEN WITH THE SEED: the statements are not yours to turn. If you find one false, say at which input.
  Laid BY PROGRAM, IN A SANDBOX (cutbox-rows.mjs): the forced cells as the released guide's own fill.sh prints them over the translation 77684684a0746724… (all of the seat's roots in one cut). By AI agents, Wed Nov 11 2026. No macro, syntax, notation, axiom, sorry.
-/
import Derived.Test.YtlhfclpbodfmcaaChecked
import GoSem.Claim
import GoSem.ClaimJoined
import GoSem.ClaimMapViews
import Derived.JoinedTies
import Derived.KernelRfl
namespace Go.Proofs.Ytlhfclpbodfmcaa
/- THE CELL 'sum', in the pinned program and in every row, IS THE sha256 OF THE DUMP (.gsa) THAT YtlhfclpbodfmcaaProg.lean LOADS. Nothing in Lean hashes anything: it is a label: what it is worth is what the hold of that sum in a sandbox is worth. -/
noncomputable def Try.pinned : Pinned := { name := "ytlhfclpbodfmcaa", sum := "77684684a07467240751ce308ae4778d56b70c5a7e1d1644fc361806390a772a", checked := Try.checked }
namespace Rows
def none {H : Type} : Left H := { results := [], args := [] }

/-- 'waterhourlaw02.VesselLevels': WHATEVER THE INPUT: true; the input reads as it did. -/
def vesselLevelsSpec : ChangeSpec := { name := "vesselLevels", fn := fun _ => fun
  | [d1, d2, d3, d4] => { results := [.lit (.bool true)], args := [d1, d2, d3, d4] }
  | _ => none }
def vesselLevelsRow : OpenClaim := { program := "ytlhfclpbodfmcaa", sum := "77684684a07467240751ce308ae4778d56b70c5a7e1d1644fc361806390a772a", func := "waterhour/waterhourlaw02.VesselLevels", spec := "vesselLevels", unfollowed := true, recurses := true, apart := false }
def VesselLevelsSaid : Prop := vesselLevelsRow.holds Try.pinned (OpenSpec.ofChange vesselLevelsSpec)

/-- ITS FALSE NEIGHBOUR: 'it returns false'. Refute it at one input. -/
def vesselLevelsWrong : ChangeSpec := { name := "vesselLevels", fn := fun _ => fun
  | [d1, d2, d3, d4] => { results := [.lit (.bool false)], args := [d1, d2, d3, d4] }
  | _ => none }
def VesselLevelsWrongFalsely : Prop := vesselLevelsRow.holds Try.pinned (OpenSpec.ofChange vesselLevelsWrong)

/-- 'waterhourlaw02.VesselVolumes': WHATEVER THE INPUT: true; the input reads as it did. -/
def vesselVolumesSpec : ChangeSpec := { name := "vesselVolumes", fn := fun _ => fun
  | [d1, d2, d3, d4] => { results := [.lit (.bool true)], args := [d1, d2, d3, d4] }
  | _ => none }
def vesselVolumesRow : OpenClaim := { program := "ytlhfclpbodfmcaa", sum := "77684684a07467240751ce308ae4778d56b70c5a7e1d1644fc361806390a772a", func := "waterhour/waterhourlaw02.VesselVolumes", spec := "vesselVolumes", unfollowed := true, recurses := true, apart := false }
def VesselVolumesSaid : Prop := vesselVolumesRow.holds Try.pinned (OpenSpec.ofChange vesselVolumesSpec)

/-- ITS FALSE NEIGHBOUR: 'it returns false'. Refute it at one input. -/
def vesselVolumesWrong : ChangeSpec := { name := "vesselVolumes", fn := fun _ => fun
  | [d1, d2, d3, d4] => { results := [.lit (.bool false)], args := [d1, d2, d3, d4] }
  | _ => none }
def VesselVolumesWrongFalsely : Prop := vesselVolumesRow.holds Try.pinned (OpenSpec.ofChange vesselVolumesWrong)

/-- 'waterhourlaw02.VesselTwo': WHATEVER THE INPUT: true; the input reads as it did. -/
def vesselTwoSpec : ChangeSpec := { name := "vesselTwo", fn := fun _ => fun
  | [d1, d2, d3, d4, d5] => { results := [.lit (.bool true)], args := [d1, d2, d3, d4, d5] }
  | _ => none }
def vesselTwoRow : OpenClaim := { program := "ytlhfclpbodfmcaa", sum := "77684684a07467240751ce308ae4778d56b70c5a7e1d1644fc361806390a772a", func := "waterhour/waterhourlaw02.VesselTwo", spec := "vesselTwo", unfollowed := true, recurses := true, apart := false }
def VesselTwoSaid : Prop := vesselTwoRow.holds Try.pinned (OpenSpec.ofChange vesselTwoSpec)

/-- ITS FALSE NEIGHBOUR: 'it returns false'. Refute it at one input. -/
def vesselTwoWrong : ChangeSpec := { name := "vesselTwo", fn := fun _ => fun
  | [d1, d2, d3, d4, d5] => { results := [.lit (.bool false)], args := [d1, d2, d3, d4, d5] }
  | _ => none }
def VesselTwoWrongFalsely : Prop := vesselTwoRow.holds Try.pinned (OpenSpec.ofChange vesselTwoWrong)

/-- 'waterhourlaw02.VesselBothWays': WHATEVER THE INPUT: true; the input reads as it did. -/
def vesselBothWaysSpec : ChangeSpec := { name := "vesselBothWays", fn := fun _ => fun
  | [d1, d2, d3, d4] => { results := [.lit (.bool true)], args := [d1, d2, d3, d4] }
  | _ => none }
def vesselBothWaysRow : OpenClaim := { program := "ytlhfclpbodfmcaa", sum := "77684684a07467240751ce308ae4778d56b70c5a7e1d1644fc361806390a772a", func := "waterhour/waterhourlaw02.VesselBothWays", spec := "vesselBothWays", unfollowed := true, recurses := true, apart := false }
def VesselBothWaysSaid : Prop := vesselBothWaysRow.holds Try.pinned (OpenSpec.ofChange vesselBothWaysSpec)

/-- ITS FALSE NEIGHBOUR: 'it returns false'. Refute it at one input. -/
def vesselBothWaysWrong : ChangeSpec := { name := "vesselBothWays", fn := fun _ => fun
  | [d1, d2, d3, d4] => { results := [.lit (.bool false)], args := [d1, d2, d3, d4] }
  | _ => none }
def VesselBothWaysWrongFalsely : Prop := vesselBothWaysRow.holds Try.pinned (OpenSpec.ofChange vesselBothWaysWrong)

/-- 'waterhourlaw02.VesselCurves': WHATEVER THE INPUT: true; the input reads as it did. -/
def vesselCurvesSpec : ChangeSpec := { name := "vesselCurves", fn := fun _ => fun
  | [d1, d2, d3, d4] => { results := [.lit (.bool true)], args := [d1, d2, d3, d4] }
  | _ => none }
def vesselCurvesRow : OpenClaim := { program := "ytlhfclpbodfmcaa", sum := "77684684a07467240751ce308ae4778d56b70c5a7e1d1644fc361806390a772a", func := "waterhour/waterhourlaw02.VesselCurves", spec := "vesselCurves", unfollowed := true, recurses := true, apart := false }
def VesselCurvesSaid : Prop := vesselCurvesRow.holds Try.pinned (OpenSpec.ofChange vesselCurvesSpec)

/-- ITS FALSE NEIGHBOUR: 'it returns false'. Refute it at one input. -/
def vesselCurvesWrong : ChangeSpec := { name := "vesselCurves", fn := fun _ => fun
  | [d1, d2, d3, d4] => { results := [.lit (.bool false)], args := [d1, d2, d3, d4] }
  | _ => none }
def VesselCurvesWrongFalsely : Prop := vesselCurvesRow.holds Try.pinned (OpenSpec.ofChange vesselCurvesWrong)

/-- 'waterhourlaw02.VesselOneByOne': WHATEVER THE INPUT: true; the input reads as it did. -/
def vesselOneByOneSpec : ChangeSpec := { name := "vesselOneByOne", fn := fun _ => fun
  | [d1, d2, d3, d4, d5, d6] => { results := [.lit (.bool true)], args := [d1, d2, d3, d4, d5, d6] }
  | _ => none }
def vesselOneByOneRow : OpenClaim := { program := "ytlhfclpbodfmcaa", sum := "77684684a07467240751ce308ae4778d56b70c5a7e1d1644fc361806390a772a", func := "waterhour/waterhourlaw02.VesselOneByOne", spec := "vesselOneByOne", unfollowed := true, recurses := true, apart := false }
def VesselOneByOneSaid : Prop := vesselOneByOneRow.holds Try.pinned (OpenSpec.ofChange vesselOneByOneSpec)

/-- ITS FALSE NEIGHBOUR: 'it returns false'. Refute it at one input. -/
def vesselOneByOneWrong : ChangeSpec := { name := "vesselOneByOne", fn := fun _ => fun
  | [d1, d2, d3, d4, d5, d6] => { results := [.lit (.bool false)], args := [d1, d2, d3, d4, d5, d6] }
  | _ => none }
def VesselOneByOneWrongFalsely : Prop := vesselOneByOneRow.holds Try.pinned (OpenSpec.ofChange vesselOneByOneWrong)

/-- 'waterhourlaw02.VesselFaster': WHATEVER THE INPUT: true; the input reads as it did. -/
def vesselFasterSpec : ChangeSpec := { name := "vesselFaster", fn := fun _ => fun
  | [d1, d2, d3, d4] => { results := [.lit (.bool true)], args := [d1, d2, d3, d4] }
  | _ => none }
def vesselFasterRow : OpenClaim := { program := "ytlhfclpbodfmcaa", sum := "77684684a07467240751ce308ae4778d56b70c5a7e1d1644fc361806390a772a", func := "waterhour/waterhourlaw02.VesselFaster", spec := "vesselFaster", unfollowed := true, recurses := true, apart := false }
def VesselFasterSaid : Prop := vesselFasterRow.holds Try.pinned (OpenSpec.ofChange vesselFasterSpec)

/-- ITS FALSE NEIGHBOUR: 'it returns false'. Refute it at one input. -/
def vesselFasterWrong : ChangeSpec := { name := "vesselFaster", fn := fun _ => fun
  | [d1, d2, d3, d4] => { results := [.lit (.bool false)], args := [d1, d2, d3, d4] }
  | _ => none }
def VesselFasterWrongFalsely : Prop := vesselFasterRow.holds Try.pinned (OpenSpec.ofChange vesselFasterWrong)

/-- 'waterhourlaw02.VesselCascade': WHATEVER THE INPUT: true; the input reads as it did. -/
def vesselCascadeSpec : ChangeSpec := { name := "vesselCascade", fn := fun _ => fun
  | [d1, d2, d3, d4, d5, d6] => { results := [.lit (.bool true)], args := [d1, d2, d3, d4, d5, d6] }
  | _ => none }
def vesselCascadeRow : OpenClaim := { program := "ytlhfclpbodfmcaa", sum := "77684684a07467240751ce308ae4778d56b70c5a7e1d1644fc361806390a772a", func := "waterhour/waterhourlaw02.VesselCascade", spec := "vesselCascade", unfollowed := true, recurses := true, apart := false }
def VesselCascadeSaid : Prop := vesselCascadeRow.holds Try.pinned (OpenSpec.ofChange vesselCascadeSpec)

/-- ITS FALSE NEIGHBOUR: 'it returns false'. Refute it at one input. -/
def vesselCascadeWrong : ChangeSpec := { name := "vesselCascade", fn := fun _ => fun
  | [d1, d2, d3, d4, d5, d6] => { results := [.lit (.bool false)], args := [d1, d2, d3, d4, d5, d6] }
  | _ => none }
def VesselCascadeWrongFalsely : Prop := vesselCascadeRow.holds Try.pinned (OpenSpec.ofChange vesselCascadeWrong)

/-- 'waterhourlaw02.VesselLarger': WHATEVER THE INPUT: true; the input reads as it did. -/
def vesselLargerSpec : ChangeSpec := { name := "vesselLarger", fn := fun _ => fun
  | [d1, d2, d3, d4, d5] => { results := [.lit (.bool true)], args := [d1, d2, d3, d4, d5] }
  | _ => none }
def vesselLargerRow : OpenClaim := { program := "ytlhfclpbodfmcaa", sum := "77684684a07467240751ce308ae4778d56b70c5a7e1d1644fc361806390a772a", func := "waterhour/waterhourlaw02.VesselLarger", spec := "vesselLarger", unfollowed := true, recurses := true, apart := false }
def VesselLargerSaid : Prop := vesselLargerRow.holds Try.pinned (OpenSpec.ofChange vesselLargerSpec)

/-- ITS FALSE NEIGHBOUR: 'it returns false'. Refute it at one input. -/
def vesselLargerWrong : ChangeSpec := { name := "vesselLarger", fn := fun _ => fun
  | [d1, d2, d3, d4, d5] => { results := [.lit (.bool false)], args := [d1, d2, d3, d4, d5] }
  | _ => none }
def VesselLargerWrongFalsely : Prop := vesselLargerRow.holds Try.pinned (OpenSpec.ofChange vesselLargerWrong)

/-- 'waterhourlaw02.VesselForms': WHATEVER THE INPUT: true; the input reads as it did. -/
def vesselFormsSpec : ChangeSpec := { name := "vesselForms", fn := fun _ => fun
  | [d] => { results := [.lit (.bool true)], args := [d] }
  | _ => none }
def vesselFormsRow : OpenClaim := { program := "ytlhfclpbodfmcaa", sum := "77684684a07467240751ce308ae4778d56b70c5a7e1d1644fc361806390a772a", func := "waterhour/waterhourlaw02.VesselForms", spec := "vesselForms", unfollowed := true, recurses := true, apart := false }
def VesselFormsSaid : Prop := vesselFormsRow.holds Try.pinned (OpenSpec.ofChange vesselFormsSpec)

/-- ITS FALSE NEIGHBOUR: 'it returns false'. Refute it at one input. -/
def vesselFormsWrong : ChangeSpec := { name := "vesselForms", fn := fun _ => fun
  | [d] => { results := [.lit (.bool false)], args := [d] }
  | _ => none }
def VesselFormsWrongFalsely : Prop := vesselFormsRow.holds Try.pinned (OpenSpec.ofChange vesselFormsWrong)

/-- 'waterhourlaw02.VesselMarks': WHATEVER THE INPUT: true; the input reads as it did. -/
def vesselMarksSpec : ChangeSpec := { name := "vesselMarks", fn := fun _ => fun
  | [d1, d2, d3] => { results := [.lit (.bool true)], args := [d1, d2, d3] }
  | _ => none }
def vesselMarksRow : OpenClaim := { program := "ytlhfclpbodfmcaa", sum := "77684684a07467240751ce308ae4778d56b70c5a7e1d1644fc361806390a772a", func := "waterhour/waterhourlaw02.VesselMarks", spec := "vesselMarks", unfollowed := true, recurses := true, apart := false }
def VesselMarksSaid : Prop := vesselMarksRow.holds Try.pinned (OpenSpec.ofChange vesselMarksSpec)

/-- ITS FALSE NEIGHBOUR: 'it returns false'. Refute it at one input. -/
def vesselMarksWrong : ChangeSpec := { name := "vesselMarks", fn := fun _ => fun
  | [d1, d2, d3] => { results := [.lit (.bool false)], args := [d1, d2, d3] }
  | _ => none }
def VesselMarksWrongFalsely : Prop := vesselMarksRow.holds Try.pinned (OpenSpec.ofChange vesselMarksWrong)

/-- 'waterhourlaw02.VesselRings': WHATEVER THE INPUT: true; the input reads as it did. -/
def vesselRingsSpec : ChangeSpec := { name := "vesselRings", fn := fun _ => fun
  | [d1, d2, d3] => { results := [.lit (.bool true)], args := [d1, d2, d3] }
  | _ => none }
def vesselRingsRow : OpenClaim := { program := "ytlhfclpbodfmcaa", sum := "77684684a07467240751ce308ae4778d56b70c5a7e1d1644fc361806390a772a", func := "waterhour/waterhourlaw02.VesselRings", spec := "vesselRings", unfollowed := true, recurses := true, apart := false }
def VesselRingsSaid : Prop := vesselRingsRow.holds Try.pinned (OpenSpec.ofChange vesselRingsSpec)

/-- ITS FALSE NEIGHBOUR: 'it returns false'. Refute it at one input. -/
def vesselRingsWrong : ChangeSpec := { name := "vesselRings", fn := fun _ => fun
  | [d1, d2, d3] => { results := [.lit (.bool false)], args := [d1, d2, d3] }
  | _ => none }
def VesselRingsWrongFalsely : Prop := vesselRingsRow.holds Try.pinned (OpenSpec.ofChange vesselRingsWrong)

/-- 'waterhourlaw02.VesselEqualParts': WHATEVER THE INPUT: true; the input reads as it did. -/
def vesselEqualPartsSpec : ChangeSpec := { name := "vesselEqualParts", fn := fun _ => fun
  | [d1, d2] => { results := [.lit (.bool true)], args := [d1, d2] }
  | _ => none }
def vesselEqualPartsRow : OpenClaim := { program := "ytlhfclpbodfmcaa", sum := "77684684a07467240751ce308ae4778d56b70c5a7e1d1644fc361806390a772a", func := "waterhour/waterhourlaw02.VesselEqualParts", spec := "vesselEqualParts", unfollowed := true, recurses := true, apart := false }
def VesselEqualPartsSaid : Prop := vesselEqualPartsRow.holds Try.pinned (OpenSpec.ofChange vesselEqualPartsSpec)

/-- ITS FALSE NEIGHBOUR: 'it returns false'. Refute it at one input. -/
def vesselEqualPartsWrong : ChangeSpec := { name := "vesselEqualParts", fn := fun _ => fun
  | [d1, d2] => { results := [.lit (.bool false)], args := [d1, d2] }
  | _ => none }
def VesselEqualPartsWrongFalsely : Prop := vesselEqualPartsRow.holds Try.pinned (OpenSpec.ofChange vesselEqualPartsWrong)

/-- 'waterhourlaw02.VesselSlower': WHATEVER THE INPUT: true; the input reads as it did. -/
def vesselSlowerSpec : ChangeSpec := { name := "vesselSlower", fn := fun _ => fun
  | [d1, d2, d3, d4, d5] => { results := [.lit (.bool true)], args := [d1, d2, d3, d4, d5] }
  | _ => none }
def vesselSlowerRow : OpenClaim := { program := "ytlhfclpbodfmcaa", sum := "77684684a07467240751ce308ae4778d56b70c5a7e1d1644fc361806390a772a", func := "waterhour/waterhourlaw02.VesselSlower", spec := "vesselSlower", unfollowed := true, recurses := true, apart := false }
def VesselSlowerSaid : Prop := vesselSlowerRow.holds Try.pinned (OpenSpec.ofChange vesselSlowerSpec)

/-- ITS FALSE NEIGHBOUR: 'it returns false'. Refute it at one input. -/
def vesselSlowerWrong : ChangeSpec := { name := "vesselSlower", fn := fun _ => fun
  | [d1, d2, d3, d4, d5] => { results := [.lit (.bool false)], args := [d1, d2, d3, d4, d5] }
  | _ => none }
def VesselSlowerWrongFalsely : Prop := vesselSlowerRow.holds Try.pinned (OpenSpec.ofChange vesselSlowerWrong)

/-- 'waterhourlaw02.VesselSame': WHATEVER THE INPUT: true; the input reads as it did. -/
def vesselSameSpec : ChangeSpec := { name := "vesselSame", fn := fun _ => fun
  | [d1, d2, d3, d4, d5, d6] => { results := [.lit (.bool true)], args := [d1, d2, d3, d4, d5, d6] }
  | _ => none }
def vesselSameRow : OpenClaim := { program := "ytlhfclpbodfmcaa", sum := "77684684a07467240751ce308ae4778d56b70c5a7e1d1644fc361806390a772a", func := "waterhour/waterhourlaw02.VesselSame", spec := "vesselSame", unfollowed := true, recurses := true, apart := false }
def VesselSameSaid : Prop := vesselSameRow.holds Try.pinned (OpenSpec.ofChange vesselSameSpec)

/-- ITS FALSE NEIGHBOUR: 'it returns false'. Refute it at one input. -/
def vesselSameWrong : ChangeSpec := { name := "vesselSame", fn := fun _ => fun
  | [d1, d2, d3, d4, d5, d6] => { results := [.lit (.bool false)], args := [d1, d2, d3, d4, d5, d6] }
  | _ => none }
def VesselSameWrongFalsely : Prop := vesselSameRow.holds Try.pinned (OpenSpec.ofChange vesselSameWrong)

/-- 'waterhourlaw02.VesselWater': WHATEVER THE INPUT: true; the input reads as it did. -/
def vesselWaterSpec : ChangeSpec := { name := "vesselWater", fn := fun _ => fun
  | [d1, d2, d3, d4, d5] => { results := [.lit (.bool true)], args := [d1, d2, d3, d4, d5] }
  | _ => none }
def vesselWaterRow : OpenClaim := { program := "ytlhfclpbodfmcaa", sum := "77684684a07467240751ce308ae4778d56b70c5a7e1d1644fc361806390a772a", func := "waterhour/waterhourlaw02.VesselWater", spec := "vesselWater", unfollowed := true, recurses := true, apart := false }
def VesselWaterSaid : Prop := vesselWaterRow.holds Try.pinned (OpenSpec.ofChange vesselWaterSpec)

/-- ITS FALSE NEIGHBOUR: 'it returns false'. Refute it at one input. -/
def vesselWaterWrong : ChangeSpec := { name := "vesselWater", fn := fun _ => fun
  | [d1, d2, d3, d4, d5] => { results := [.lit (.bool false)], args := [d1, d2, d3, d4, d5] }
  | _ => none }
def VesselWaterWrongFalsely : Prop := vesselWaterRow.holds Try.pinned (OpenSpec.ofChange vesselWaterWrong)

/- THE SECOND FORM. 'bulk': how many values and letters a reading holds, each counted each time it is reached (what is shared counts as often as it is met; a slice's spare places count too). A statement '..UptoSaid' is the law's where the arguments, and the package variables that the reading takes, are together of bulk at most 1048576: NARROWER than '..Said'. Prove '..Said' where nothing that the law and all that it calls make is longer than what came in: it says more and counts as full. Else prove '..UptoSaid'. A law counts once. -/
mutual
def uptoBulk {H : Type} : DataW H → Nat
  | .lit (.string bytes) => bytes.length + 1
  | .lit _ => 1
  | .nil => 1
  | .ptr d => uptoBulk d + 1
  | .slice elems spare => uptoBulkAll elems + uptoBulkAll spare + 1
  | .agg parts => uptoBulkAll parts + 1
  | .iface _ d => uptoBulk d + 1
  | .map entries => uptoBulkEntries entries + 1
  | .held _ => 1
def uptoBulkAll {H : Type} : List (DataW H) → Nat
  | [] => 0
  | d :: r => uptoBulk d + uptoBulkAll r
def uptoBulkEntries {H : Type} : List (Lit × DataW H) → Nat
  | [] => 0
  | x :: r => uptoBulkEntry x + uptoBulkEntries r
def uptoBulkEntry {H : Type} : Lit × DataW H → Nat
  | (.string bytes, d) => bytes.length + uptoBulk d + 1
  | (_, d) => uptoBulk d + 1
 end
def uptoSmall : (H : Type) → List (DataW H) → Bool := fun _ ds => decide (uptoBulkAll ds ≤ 1048576)
def OpenSpec.upto (s : _root_.Go.ChangeSpec) : _root_.Go.OpenSpec := { _root_.Go.OpenSpec.ofChange s with cond := some uptoSmall }

/-- 'waterhourlaw02.VesselLevels', WHERE WHAT IT READS IS OF BULK AT MOST 1048576: true; the input reads as it did. -/
def vesselLevelsUptoRow : OpenClaim := { program := "ytlhfclpbodfmcaa", sum := "77684684a07467240751ce308ae4778d56b70c5a7e1d1644fc361806390a772a", func := "waterhour/waterhourlaw02.VesselLevels", spec := "vesselLevels", unfollowed := true, recurses := true, apart := false, narrowed := true }
def VesselLevelsUptoSaid : Prop := vesselLevelsUptoRow.holds Try.pinned (OpenSpec.upto vesselLevelsSpec)

/-- 'waterhourlaw02.VesselVolumes', WHERE WHAT IT READS IS OF BULK AT MOST 1048576: true; the input reads as it did. -/
def vesselVolumesUptoRow : OpenClaim := { program := "ytlhfclpbodfmcaa", sum := "77684684a07467240751ce308ae4778d56b70c5a7e1d1644fc361806390a772a", func := "waterhour/waterhourlaw02.VesselVolumes", spec := "vesselVolumes", unfollowed := true, recurses := true, apart := false, narrowed := true }
def VesselVolumesUptoSaid : Prop := vesselVolumesUptoRow.holds Try.pinned (OpenSpec.upto vesselVolumesSpec)

/-- 'waterhourlaw02.VesselTwo', WHERE WHAT IT READS IS OF BULK AT MOST 1048576: true; the input reads as it did. -/
def vesselTwoUptoRow : OpenClaim := { program := "ytlhfclpbodfmcaa", sum := "77684684a07467240751ce308ae4778d56b70c5a7e1d1644fc361806390a772a", func := "waterhour/waterhourlaw02.VesselTwo", spec := "vesselTwo", unfollowed := true, recurses := true, apart := false, narrowed := true }
def VesselTwoUptoSaid : Prop := vesselTwoUptoRow.holds Try.pinned (OpenSpec.upto vesselTwoSpec)

/-- 'waterhourlaw02.VesselBothWays', WHERE WHAT IT READS IS OF BULK AT MOST 1048576: true; the input reads as it did. -/
def vesselBothWaysUptoRow : OpenClaim := { program := "ytlhfclpbodfmcaa", sum := "77684684a07467240751ce308ae4778d56b70c5a7e1d1644fc361806390a772a", func := "waterhour/waterhourlaw02.VesselBothWays", spec := "vesselBothWays", unfollowed := true, recurses := true, apart := false, narrowed := true }
def VesselBothWaysUptoSaid : Prop := vesselBothWaysUptoRow.holds Try.pinned (OpenSpec.upto vesselBothWaysSpec)

/-- 'waterhourlaw02.VesselCurves', WHERE WHAT IT READS IS OF BULK AT MOST 1048576: true; the input reads as it did. -/
def vesselCurvesUptoRow : OpenClaim := { program := "ytlhfclpbodfmcaa", sum := "77684684a07467240751ce308ae4778d56b70c5a7e1d1644fc361806390a772a", func := "waterhour/waterhourlaw02.VesselCurves", spec := "vesselCurves", unfollowed := true, recurses := true, apart := false, narrowed := true }
def VesselCurvesUptoSaid : Prop := vesselCurvesUptoRow.holds Try.pinned (OpenSpec.upto vesselCurvesSpec)

/-- 'waterhourlaw02.VesselOneByOne', WHERE WHAT IT READS IS OF BULK AT MOST 1048576: true; the input reads as it did. -/
def vesselOneByOneUptoRow : OpenClaim := { program := "ytlhfclpbodfmcaa", sum := "77684684a07467240751ce308ae4778d56b70c5a7e1d1644fc361806390a772a", func := "waterhour/waterhourlaw02.VesselOneByOne", spec := "vesselOneByOne", unfollowed := true, recurses := true, apart := false, narrowed := true }
def VesselOneByOneUptoSaid : Prop := vesselOneByOneUptoRow.holds Try.pinned (OpenSpec.upto vesselOneByOneSpec)

/-- 'waterhourlaw02.VesselFaster', WHERE WHAT IT READS IS OF BULK AT MOST 1048576: true; the input reads as it did. -/
def vesselFasterUptoRow : OpenClaim := { program := "ytlhfclpbodfmcaa", sum := "77684684a07467240751ce308ae4778d56b70c5a7e1d1644fc361806390a772a", func := "waterhour/waterhourlaw02.VesselFaster", spec := "vesselFaster", unfollowed := true, recurses := true, apart := false, narrowed := true }
def VesselFasterUptoSaid : Prop := vesselFasterUptoRow.holds Try.pinned (OpenSpec.upto vesselFasterSpec)

/-- 'waterhourlaw02.VesselCascade', WHERE WHAT IT READS IS OF BULK AT MOST 1048576: true; the input reads as it did. -/
def vesselCascadeUptoRow : OpenClaim := { program := "ytlhfclpbodfmcaa", sum := "77684684a07467240751ce308ae4778d56b70c5a7e1d1644fc361806390a772a", func := "waterhour/waterhourlaw02.VesselCascade", spec := "vesselCascade", unfollowed := true, recurses := true, apart := false, narrowed := true }
def VesselCascadeUptoSaid : Prop := vesselCascadeUptoRow.holds Try.pinned (OpenSpec.upto vesselCascadeSpec)

/-- 'waterhourlaw02.VesselLarger', WHERE WHAT IT READS IS OF BULK AT MOST 1048576: true; the input reads as it did. -/
def vesselLargerUptoRow : OpenClaim := { program := "ytlhfclpbodfmcaa", sum := "77684684a07467240751ce308ae4778d56b70c5a7e1d1644fc361806390a772a", func := "waterhour/waterhourlaw02.VesselLarger", spec := "vesselLarger", unfollowed := true, recurses := true, apart := false, narrowed := true }
def VesselLargerUptoSaid : Prop := vesselLargerUptoRow.holds Try.pinned (OpenSpec.upto vesselLargerSpec)

/-- 'waterhourlaw02.VesselForms', WHERE WHAT IT READS IS OF BULK AT MOST 1048576: true; the input reads as it did. -/
def vesselFormsUptoRow : OpenClaim := { program := "ytlhfclpbodfmcaa", sum := "77684684a07467240751ce308ae4778d56b70c5a7e1d1644fc361806390a772a", func := "waterhour/waterhourlaw02.VesselForms", spec := "vesselForms", unfollowed := true, recurses := true, apart := false, narrowed := true }
def VesselFormsUptoSaid : Prop := vesselFormsUptoRow.holds Try.pinned (OpenSpec.upto vesselFormsSpec)

/-- 'waterhourlaw02.VesselMarks', WHERE WHAT IT READS IS OF BULK AT MOST 1048576: true; the input reads as it did. -/
def vesselMarksUptoRow : OpenClaim := { program := "ytlhfclpbodfmcaa", sum := "77684684a07467240751ce308ae4778d56b70c5a7e1d1644fc361806390a772a", func := "waterhour/waterhourlaw02.VesselMarks", spec := "vesselMarks", unfollowed := true, recurses := true, apart := false, narrowed := true }
def VesselMarksUptoSaid : Prop := vesselMarksUptoRow.holds Try.pinned (OpenSpec.upto vesselMarksSpec)

/-- 'waterhourlaw02.VesselRings', WHERE WHAT IT READS IS OF BULK AT MOST 1048576: true; the input reads as it did. -/
def vesselRingsUptoRow : OpenClaim := { program := "ytlhfclpbodfmcaa", sum := "77684684a07467240751ce308ae4778d56b70c5a7e1d1644fc361806390a772a", func := "waterhour/waterhourlaw02.VesselRings", spec := "vesselRings", unfollowed := true, recurses := true, apart := false, narrowed := true }
def VesselRingsUptoSaid : Prop := vesselRingsUptoRow.holds Try.pinned (OpenSpec.upto vesselRingsSpec)

/-- 'waterhourlaw02.VesselEqualParts', WHERE WHAT IT READS IS OF BULK AT MOST 1048576: true; the input reads as it did. -/
def vesselEqualPartsUptoRow : OpenClaim := { program := "ytlhfclpbodfmcaa", sum := "77684684a07467240751ce308ae4778d56b70c5a7e1d1644fc361806390a772a", func := "waterhour/waterhourlaw02.VesselEqualParts", spec := "vesselEqualParts", unfollowed := true, recurses := true, apart := false, narrowed := true }
def VesselEqualPartsUptoSaid : Prop := vesselEqualPartsUptoRow.holds Try.pinned (OpenSpec.upto vesselEqualPartsSpec)

/-- 'waterhourlaw02.VesselSlower', WHERE WHAT IT READS IS OF BULK AT MOST 1048576: true; the input reads as it did. -/
def vesselSlowerUptoRow : OpenClaim := { program := "ytlhfclpbodfmcaa", sum := "77684684a07467240751ce308ae4778d56b70c5a7e1d1644fc361806390a772a", func := "waterhour/waterhourlaw02.VesselSlower", spec := "vesselSlower", unfollowed := true, recurses := true, apart := false, narrowed := true }
def VesselSlowerUptoSaid : Prop := vesselSlowerUptoRow.holds Try.pinned (OpenSpec.upto vesselSlowerSpec)

/-- 'waterhourlaw02.VesselSame', WHERE WHAT IT READS IS OF BULK AT MOST 1048576: true; the input reads as it did. -/
def vesselSameUptoRow : OpenClaim := { program := "ytlhfclpbodfmcaa", sum := "77684684a07467240751ce308ae4778d56b70c5a7e1d1644fc361806390a772a", func := "waterhour/waterhourlaw02.VesselSame", spec := "vesselSame", unfollowed := true, recurses := true, apart := false, narrowed := true }
def VesselSameUptoSaid : Prop := vesselSameUptoRow.holds Try.pinned (OpenSpec.upto vesselSameSpec)

/-- 'waterhourlaw02.VesselWater', WHERE WHAT IT READS IS OF BULK AT MOST 1048576: true; the input reads as it did. -/
def vesselWaterUptoRow : OpenClaim := { program := "ytlhfclpbodfmcaa", sum := "77684684a07467240751ce308ae4778d56b70c5a7e1d1644fc361806390a772a", func := "waterhour/waterhourlaw02.VesselWater", spec := "vesselWater", unfollowed := true, recurses := true, apart := false, narrowed := true }
def VesselWaterUptoSaid : Prop := vesselWaterUptoRow.holds Try.pinned (OpenSpec.upto vesselWaterSpec)

end Rows
end Go.Proofs.Ytlhfclpbodfmcaa
