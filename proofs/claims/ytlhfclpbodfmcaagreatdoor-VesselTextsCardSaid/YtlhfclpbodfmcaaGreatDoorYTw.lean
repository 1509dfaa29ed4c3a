/- One start that fits the row of VesselTexts: the listed variables as their initialisers lay them. -/
import Derived.Test.YtlhfclpbodfmcaaGreatDoorRows
import Derived.ProofKit
import Derived.Lay
import Derived.LaidMore
import Derived.Deep.DeepHandedRow
namespace Go.Proofs.YtlhfclpbodfmcaaGreatDoor.vesselTexts
open Go.ChangeShapes Go.WideShapes Go.ChangeAt Go.RowKit
abbrev L : List (String × DataW Unit) := Rows.vesselTextsRow.laid
theorem met (os : Os) (args : Array Value) : laidMet Tryz.prog L ((World.laidAll Tryz.prog os L).forCall (fun _ _ => 0) ⟨#[], args, []⟩).memory :=
  laidMet_laidAll args (by kernel_rfl) (by kernel_rfl)
theorem shaped (os : Os) (args : Array Value) : ((World.laidAll Tryz.prog os L).forCall (fun _ _ => 0) ⟨#[], args, []⟩).Shaped Tryz.prog :=
  World.shaped_of_ZipB (by kernel_rfl) (by kernel_rfl)
set_option maxRecDepth 100000 in
theorem start (os : Os) {H : Type} (enc : TypeId × Value → H) : ∃ (w : World) (tape : Tape) (i : Input), w.os = os ∧ (w.forCall tape i).Shaped Tryz.checked.prog ∧ i.vars = [] ∧ Input.okWide Tryz.checked.prog (w.forCall tape i) .any w.heap.size 3 i ∧
    (OpenSpec.ofChange Rows.vesselTextsSpec).preRow enc Tryz.checked.prog Tryz.f3 Rows.vesselTextsRow.domain false L (w.forCall tape i).memory i.args ∧ ({} : Assume).holds Tryz.checked.prog (lone (Frame.enter Tryz.checked.prog 3 i.args .normal) [] (w.forCall tape i)) :=
  ChangeSpec.witness_shaped (enc := enc) (C := Tryz.checked) (os := os) (f := 3) (fn := Tryz.f3) (s := Rows.vesselTextsSpec) (conds := Rows.vesselTextsRow.domain) (apart := false) (X := fun w _ => laidMetH Tryz.prog L w) false (World.laidAll Tryz.prog os L) #[.slice none 0 0, .string ⟨#[]⟩] 8
    (World.laidAll_os _ _ _) (shaped os _) (by kernel_rfl) (by kernel_rfl) (by kernel_rfl) (met os _)
end Go.Proofs.YtlhfclpbodfmcaaGreatDoor.vesselTexts
