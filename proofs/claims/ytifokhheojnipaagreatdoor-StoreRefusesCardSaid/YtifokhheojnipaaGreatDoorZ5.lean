/- StoreRefuses: the row holds. -/
import Derived.Test.YtifokhheojnipaaGreatDoorZ4
set_option linter.unusedVariables false
set_option linter.unusedSimpArgs false
set_option linter.unnecessarySimpa false
namespace Go.Proofs.YtifokhheojnipaaGreatDoor
open Go.ChangeShapes Go.WideShapes Go.ChangeAt Go.RowKit Go.SL Go.GX
set_option maxRecDepth 100000
theorem n10 : Tryz.pinned.checked.prog.funcNamed Rows.storeRefusesRow.func = some 10 := by kernel_rfl
theorem w10 : Tryz.f10.isWrapper Tryz.pinned.checked.prog Rows.storeRefusesRow.wrapper Rows.storeRefusesRow.mainSum := by unfold Func.isWrapper; rw [if_neg (of_decide_eq_false (by kernel_rfl))]; exact ⟨rfl, rfl⟩
theorem i10 : Tryz.f10.isInstance Tryz.pinned.checked.prog Rows.storeRefusesRow.origin Rows.storeRefusesRow.targs := of_decide_eq_true (by kernel_rfl)
theorem storeRefuses_holds : Rows.StoreRefusesSaid :=
  OpenClaim.holds_of_wide 10 Tryz.f10 rfl rfl rfl rfl rfl rfl rfl ⟨rfl, rfl, rfl, rfl, rfl⟩ rfl rfl rfl rfl rfl n10 fun10 j10 i10 w10
    (fun os started H enc _ => storeRefuses_lifted os started H enc)
end Go.Proofs.YtifokhheojnipaaGreatDoor
