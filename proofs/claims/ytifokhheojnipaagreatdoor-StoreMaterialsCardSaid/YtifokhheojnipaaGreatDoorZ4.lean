/- StoreMaterials' closed facts. -/
import Derived.Test.YtifokhheojnipaaGreatDoorZ3
set_option linter.unusedVariables false
set_option linter.unusedSimpArgs false
set_option linter.unnecessarySimpa false
namespace Go.Proofs.YtifokhheojnipaaGreatDoor
open Go.ChangeShapes Go.WideShapes Go.ChangeAt Go.RowKit Go.SL Go.GX
set_option maxRecDepth 100000
theorem j3 : joinedFacts Tryz.pinned.checked.prog 3 Tryz.f3 Rows.storeMaterialsSpec Rows.storeMaterialsRow = true := by kernel_rfl
end Go.Proofs.YtifokhheojnipaaGreatDoor
