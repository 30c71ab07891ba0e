/- StoreAgain: the card. -/
import Derived.Test.YtifokhheojnipaaGreatDoorZ7
import Derived.Test.YtifokhheojnipaaGreatDoorTie
import Derived.SevenTiedAt
set_option linter.unusedVariables false
set_option linter.unusedSimpArgs false
set_option linter.unnecessarySimpa false
namespace Go.Proofs.YtifokhheojnipaaGreatDoor
open Go.ChangeShapes Go.WideShapes Go.ChangeAt Go.RowKit Go.SL Go.GX
set_option maxRecDepth 100000
theorem storeAgain_proved : Rows.StoreAgainCardSaid :=
  Claim7.holds_tied_plain_at .later [] [.data] true (true, "3ee861d6cc30e1f2dac45a0ab06a9aa49132ebd5f7de234dd5bee481380b0530") true
    storeAgain_holds (fun _ h => by cases h) storeAgain_wf (fun _ h => by cases h) storeAgain_row_tie rfl ⟨rfl, rfl⟩ storeAgain_main rfl
    (fun f fn hf hfn => by
      obtain rfl : f = 9 := Option.some.inj ((show Tryz.prog.funcNamed "strongroom/strongroomlaw16.StoreAgain" = some 9 by kernel_rfl).symm.trans hf) |>.symm
      obtain rfl : fn = Tryz.f9 := (Option.some.inj (fun9.symm.trans hfn)).symm
      exact ⟨storeAgain_looks, fun j t ht => by
        rw [par9] at ht
        have h3 : t = 22 ∨ t = 59 := by
          rcases j with _ | _ | j
          · exact .inl (by simpa using ht.symm)
          · exact .inr (by simpa using ht.symm)
          · simp at ht
        rcases h3 with rfl | rfl
        · exact (show Tryz.prog.wantsStandIn 22 = false by kernel_rfl)
        · exact (show Tryz.prog.wantsStandIn 59 = false by kernel_rfl)⟩)
    storeAgain_goes
end Go.Proofs.YtifokhheojnipaaGreatDoor
