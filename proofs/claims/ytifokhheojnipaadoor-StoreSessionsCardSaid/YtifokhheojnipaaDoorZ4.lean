/- StoreSessions' closed facts. -/
import Derived.Test.YtifokhheojnipaaDoorZ3
set_option linter.unusedVariables false
set_option linter.unusedSimpArgs false
set_option linter.unnecessarySimpa false
namespace Go.Proofs.YtifokhheojnipaaDoor
open Go.ChangeShapes Go.WideShapes Go.ChangeAt Go.RowKit Go.SL Go.GX
set_option maxRecDepth 100000
theorem j3 : joinedFacts Tryd.pinned.checked.prog 3 Tryd.f3 Rows.storeSessionsSpec Rows.storeSessionsRow = true := by kernel_rfl
end Go.Proofs.YtifokhheojnipaaDoor
