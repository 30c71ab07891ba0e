/- HistoryTurned: the row holds. -/
import Derived.Test.YtifokhheojnipaaGreatDoorZ4
import Derived.Test.YtifokhheojnipaaGreatDoorTie
import Derived.SevenTiedAt
set_option linter.unusedVariables false
set_option linter.unusedSimpArgs false
namespace Go.Proofs.YtifokhheojnipaaGreatDoor
open Go.ChangeShapes Go.WideShapes Go.ChangeAt Go.RowKit Go.SL Go.GX
set_option maxRecDepth 100000
theorem n6 : Tryz.pinned.checked.prog.funcNamed Rows.historyTurnedRow.func = some 6 := by kernel_rfl
theorem w6 : Tryz.f6.isWrapper Tryz.pinned.checked.prog Rows.historyTurnedRow.wrapper Rows.historyTurnedRow.mainSum := by unfold Func.isWrapper; rw [if_neg (of_decide_eq_false (by kernel_rfl))]; exact ⟨rfl, rfl⟩
theorem i6 : Tryz.f6.isInstance Tryz.pinned.checked.prog Rows.historyTurnedRow.origin Rows.historyTurnedRow.targs := of_decide_eq_true (by kernel_rfl)
theorem turned_holds : Rows.HistoryTurnedSaid :=
  OpenClaim.holds_of_wide 6 Tryz.f6 rfl rfl rfl rfl rfl rfl rfl ⟨rfl, rfl, rfl, rfl, rfl⟩ rfl rfl rfl rfl rfl n6 fun6 j6 i6 w6
    (fun os started H enc _ => turned_lifted os started H enc)
end Go.Proofs.YtifokhheojnipaaGreatDoor
namespace Go.Proofs.YtifokhheojnipaaGreatDoor
open Go
set_option maxRecDepth 100000
theorem turned_proved : Rows.HistoryTurnedCardSaid :=
  Claim7.holds_tied_plain_at .later [] [.data] true (true, "3ee861d6cc30e1f2dac45a0ab06a9aa49132ebd5f7de234dd5bee481380b0530") true
    turned_holds (fun _ h => by cases h) (by kernel_rfl) (fun _ h => by cases h) historyTurned_row_tie rfl ⟨rfl, rfl⟩ (by kernel_rfl) rfl
    (fun f fn hf hfn => by
      obtain rfl : f = 6 := Option.some.inj ((show Tryz.prog.funcNamed "strongroom/strongroomlaw23.HistoryTurned" = some 6 by kernel_rfl).symm.trans hf) |>.symm
      obtain rfl : fn = Tryz.f6 := (Option.some.inj (fun6.symm.trans hfn)).symm
      exact ⟨by kernel_rfl, fun j t ht => by
        rw [par6] at ht
        have h3 : t = 3 := by
          rcases j with _ | _ | j
          · simpa using ht.symm
          · simpa using ht.symm
          · simp at ht
        rcases h3 with rfl
        exact (show Tryz.prog.wantsStandIn 3 = false by kernel_rfl)⟩)
    (by kernel_rfl)
end Go.Proofs.YtifokhheojnipaaGreatDoor
