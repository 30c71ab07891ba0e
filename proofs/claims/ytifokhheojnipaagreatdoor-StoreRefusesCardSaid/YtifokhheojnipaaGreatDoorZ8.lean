/- StoreRefuses: the card. -/
import Derived.Test.YtifokhheojnipaaGreatDoorZ7
import Derived.Test.YtifokhheojnipaaGreatDoorTie
import Derived.SevenTiedAt
set_option linter.unusedVariables false
set_option linter.unusedSimpArgs false
set_option linter.unnecessarySimpa false
namespace Go.Proofs.YtifokhheojnipaaGreatDoor
open Go.ChangeShapes Go.WideShapes Go.ChangeAt Go.RowKit Go.SL Go.GX
set_option maxRecDepth 100000
theorem storeRefuses_proved : Rows.StoreRefusesCardSaid :=
  Claim7.holds_tied_plain_at .later [] [.data] true (true, "3ee861d6cc30e1f2dac45a0ab06a9aa49132ebd5f7de234dd5bee481380b0530") true
    storeRefuses_holds (fun _ h => by cases h) storeRefuses_wf (fun _ h => by cases h) storeRefuses_row_tie rfl ⟨rfl, rfl⟩ storeRefuses_main rfl
    (fun f fn hf hfn => by
      obtain rfl : f = 10 := Option.some.inj ((show Tryz.prog.funcNamed "strongroom/strongroomlaw16.StoreRefuses" = some 10 by kernel_rfl).symm.trans hf) |>.symm
      obtain rfl : fn = Tryz.f10 := (Option.some.inj (fun10.symm.trans hfn)).symm
      exact ⟨storeRefuses_looks, fun j t ht => by
        rw [par10] at ht
        have h3 : t = 22 ∨ t = 59 ∨ t = 34 := by
          rcases j with _ | _ | _ | j
          · exact .inl (by simpa using ht.symm)
          · exact .inr (.inl (by simpa using ht.symm))
          · exact .inr (.inr (by simpa using ht.symm))
          · simp at ht
        rcases h3 with rfl | rfl | rfl
        · exact (show Tryz.prog.wantsStandIn 22 = false by kernel_rfl)
        · exact (show Tryz.prog.wantsStandIn 59 = false by kernel_rfl)
        · exact (show Tryz.prog.wantsStandIn 34 = false by kernel_rfl)⟩)
    storeRefuses_goes
end Go.Proofs.YtifokhheojnipaaGreatDoor
