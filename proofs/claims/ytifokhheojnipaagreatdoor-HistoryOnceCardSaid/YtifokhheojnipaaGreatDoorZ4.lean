/- HistoryOnce's closed facts: a minute of the kernel, by itself. -/
import Derived.Test.YtifokhheojnipaaGreatDoorZ3
set_option linter.unusedVariables false
set_option linter.unusedSimpArgs false
namespace Go.Proofs.YtifokhheojnipaaGreatDoor
open Go.ChangeShapes Go.WideShapes Go.ChangeAt Go.RowKit Go.SL Go.GX
set_option maxRecDepth 100000
theorem j8 : joinedFacts Tryz.pinned.checked.prog 8 Tryz.f8 Rows.historyOnceSpec Rows.historyOnceRow = true := by kernel_rfl
end Go.Proofs.YtifokhheojnipaaGreatDoor
