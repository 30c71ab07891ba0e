/- The card's closed facts. -/
import Derived.Test.YtifokhheojnipaaGreatDoorZ5
import Derived.Test.YtifokhheojnipaaGreatDoorTie
import Derived.SevenTiedAt
set_option linter.unusedVariables false
set_option linter.unusedSimpArgs false
set_option linter.unnecessarySimpa false
namespace Go.Proofs.YtifokhheojnipaaGreatDoor
open Go.ChangeShapes Go.WideShapes Go.ChangeAt Go.RowKit Go.SL Go.GX
set_option maxRecDepth 100000
theorem storeMaterials_goes : false = Rows.storeMaterialsRow.goesBy Tryz.pinned.checked.prog := by kernel_rfl
end Go.Proofs.YtifokhheojnipaaGreatDoor
