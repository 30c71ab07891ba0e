/- StoreMaterials: the card. -/
import Derived.Test.YtifokhheojnipaaGreatDoorZ7
import Derived.Test.YtifokhheojnipaaGreatDoorTie
import Derived.SevenTiedAt
set_option linter.unusedVariables false
set_option linter.unusedSimpArgs false
set_option linter.unnecessarySimpa false
namespace Go.Proofs.YtifokhheojnipaaGreatDoor
open Go.ChangeShapes Go.WideShapes Go.ChangeAt Go.RowKit Go.SL Go.GX
set_option maxRecDepth 100000
theorem storeMaterials_proved : Rows.StoreMaterialsCardSaid :=
  Claim7.holds_tied_plain_at .later [] [.data] true (true, "3ee861d6cc30e1f2dac45a0ab06a9aa49132ebd5f7de234dd5bee481380b0530") true
    storeMaterials_holds (fun _ h => by cases h) storeMaterials_wf (fun _ h => by cases h) storeMaterials_row_tie rfl ⟨rfl, rfl⟩ storeMaterials_main rfl
    (fun f fn hf hfn => by
      obtain rfl : f = 3 := Option.some.inj ((show Tryz.prog.funcNamed "strongroom/strongroomlaw16.StoreMaterials" = some 3 by kernel_rfl).symm.trans hf) |>.symm
      obtain rfl : fn = Tryz.f3 := (Option.some.inj (fun3.symm.trans hfn)).symm
      exact ⟨storeMaterials_looks, fun j t ht => by
        rw [par3] at ht
        have h3 : t = 22 := by
          rcases j with _ | _ | j
          · exact by simpa using ht.symm
          · exact by simpa using ht.symm
          · simp at ht
        rcases h3 with rfl
        · exact (show Tryz.prog.wantsStandIn 22 = false by kernel_rfl)⟩)
    storeMaterials_goes
end Go.Proofs.YtifokhheojnipaaGreatDoor
