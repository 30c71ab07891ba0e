/- StoreMaterials: the row holds. -/
import Derived.Test.YtifokhheojnipaaGreatDoorZ4
set_option linter.unusedVariables false
set_option linter.unusedSimpArgs false
set_option linter.unnecessarySimpa false
namespace Go.Proofs.YtifokhheojnipaaGreatDoor
open Go.ChangeShapes Go.WideShapes Go.ChangeAt Go.RowKit Go.SL Go.GX
set_option maxRecDepth 100000
theorem n3 : Tryz.pinned.checked.prog.funcNamed Rows.storeMaterialsRow.func = some 3 := by kernel_rfl
theorem w3 : Tryz.f3.isWrapper Tryz.pinned.checked.prog Rows.storeMaterialsRow.wrapper Rows.storeMaterialsRow.mainSum := by unfold Func.isWrapper; rw [if_neg (of_decide_eq_false (by kernel_rfl))]; exact ⟨rfl, rfl⟩
theorem i3 : Tryz.f3.isInstance Tryz.pinned.checked.prog Rows.storeMaterialsRow.origin Rows.storeMaterialsRow.targs := of_decide_eq_true (by kernel_rfl)
theorem storeMaterials_holds : Rows.StoreMaterialsSaid :=
  OpenClaim.holds_of_wide 3 Tryz.f3 rfl rfl rfl rfl rfl rfl rfl ⟨rfl, rfl, rfl, rfl, rfl⟩ rfl rfl rfl rfl rfl n3 fun3 j3 i3 w3
    (fun os started H enc _ => storeMaterials_lifted os started H enc)
end Go.Proofs.YtifokhheojnipaaGreatDoor
