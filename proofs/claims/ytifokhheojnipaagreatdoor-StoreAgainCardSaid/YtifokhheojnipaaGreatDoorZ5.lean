/- StoreAgain: the row holds. -/
import Derived.Test.YtifokhheojnipaaGreatDoorZ4
set_option linter.unusedVariables false
set_option linter.unusedSimpArgs false
set_option linter.unnecessarySimpa false
namespace Go.Proofs.YtifokhheojnipaaGreatDoor
open Go.ChangeShapes Go.WideShapes Go.ChangeAt Go.RowKit Go.SL Go.GX
set_option maxRecDepth 100000
theorem n9 : Tryz.pinned.checked.prog.funcNamed Rows.storeAgainRow.func = some 9 := by kernel_rfl
theorem w9 : Tryz.f9.isWrapper Tryz.pinned.checked.prog Rows.storeAgainRow.wrapper Rows.storeAgainRow.mainSum := by unfold Func.isWrapper; rw [if_neg (of_decide_eq_false (by kernel_rfl))]; exact ⟨rfl, rfl⟩
theorem i9 : Tryz.f9.isInstance Tryz.pinned.checked.prog Rows.storeAgainRow.origin Rows.storeAgainRow.targs := of_decide_eq_true (by kernel_rfl)
theorem storeAgain_holds : Rows.StoreAgainSaid :=
  OpenClaim.holds_of_wide 9 Tryz.f9 rfl rfl rfl rfl rfl rfl rfl ⟨rfl, rfl, rfl, rfl, rfl⟩ rfl rfl rfl rfl rfl n9 fun9 j9 i9 w9
    (fun os started H enc _ => storeAgain_lifted os started H enc)
end Go.Proofs.YtifokhheojnipaaGreatDoor
