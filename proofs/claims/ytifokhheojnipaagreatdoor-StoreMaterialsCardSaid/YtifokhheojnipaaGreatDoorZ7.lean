/- The card's closed facts. -/
import Derived.Test.YtifokhheojnipaaGreatDoorZ6
import Derived.Test.YtifokhheojnipaaGreatDoorTie
import Derived.SevenTiedAt
set_option linter.unusedVariables false
set_option linter.unusedSimpArgs false
set_option linter.unnecessarySimpa false
namespace Go.Proofs.YtifokhheojnipaaGreatDoor
open Go.ChangeShapes Go.WideShapes Go.ChangeAt Go.RowKit Go.SL Go.GX
set_option maxRecDepth 100000
theorem storeMaterials_wf : Rows.storeMaterialsRow.wfByText (OpenSpec.ofChange Rows.storeMaterialsSpec) = true := by kernel_rfl
theorem storeMaterials_main : Tryz.pinned.checked.prog.mainIs = some (true, "3ee861d6cc30e1f2dac45a0ab06a9aa49132ebd5f7de234dd5bee481380b0530".toList) := by kernel_rfl
theorem storeMaterials_looks : true = Tryz.pinned.checked.prog.looks [] := by kernel_rfl
end Go.Proofs.YtifokhheojnipaaGreatDoor
