/- HistoryOnce: the row holds. -/
import Derived.Test.YtifokhheojnipaaGreatDoorZ4
import Derived.Test.YtifokhheojnipaaGreatDoorTie
import Derived.SevenTiedAt
set_option linter.unusedVariables false
set_option linter.unusedSimpArgs false
namespace Go.Proofs.YtifokhheojnipaaGreatDoor
open Go.ChangeShapes Go.WideShapes Go.ChangeAt Go.RowKit Go.SL Go.GX
set_option maxRecDepth 100000
theorem n8 : Tryz.pinned.checked.prog.funcNamed Rows.historyOnceRow.func = some 8 := by kernel_rfl
theorem w8 : Tryz.f8.isWrapper Tryz.pinned.checked.prog Rows.historyOnceRow.wrapper Rows.historyOnceRow.mainSum := by unfold Func.isWrapper; rw [if_neg (of_decide_eq_false (by kernel_rfl))]; exact ⟨rfl, rfl⟩
theorem i8 : Tryz.f8.isInstance Tryz.pinned.checked.prog Rows.historyOnceRow.origin Rows.historyOnceRow.targs := of_decide_eq_true (by kernel_rfl)
theorem once_holds : Rows.HistoryOnceSaid :=
  OpenClaim.holds_of_wide 8 Tryz.f8 rfl rfl rfl rfl rfl rfl rfl ⟨rfl, rfl, rfl, rfl, rfl⟩ rfl rfl rfl rfl rfl n8 fun8 j8 i8 w8
    (fun os started H enc _ => once_lifted os started H enc)
end Go.Proofs.YtifokhheojnipaaGreatDoor
namespace Go.Proofs.YtifokhheojnipaaGreatDoor
open Go
set_option maxRecDepth 100000
theorem once_proved : Rows.HistoryOnceCardSaid :=
  Claim7.holds_tied_plain_at .later [] [.data] true (true, "3ee861d6cc30e1f2dac45a0ab06a9aa49132ebd5f7de234dd5bee481380b0530") true
    once_holds (fun _ h => by cases h) (by kernel_rfl) (fun _ h => by cases h) historyOnce_row_tie rfl ⟨rfl, rfl⟩ (by kernel_rfl) rfl
    (fun f fn hf hfn => by
      obtain rfl : f = 8 := Option.some.inj ((show Tryz.prog.funcNamed "strongroom/strongroomlaw23.HistoryOnce" = some 8 by kernel_rfl).symm.trans hf) |>.symm
      obtain rfl : fn = Tryz.f8 := (Option.some.inj (fun8.symm.trans hfn)).symm
      exact ⟨by kernel_rfl, fun j t ht => by
        rw [par8] at ht
        have h3 : t = 22 ∨ t = 3 := by
          rcases j with _ | _ | j
          · exact .inl (by simpa using ht.symm)
          · exact .inr (by simpa using ht.symm)
          · simp at ht
        rcases h3 with rfl | rfl
        · exact (show Tryz.prog.wantsStandIn 22 = false by kernel_rfl)
        · exact (show Tryz.prog.wantsStandIn 3 = false by kernel_rfl)⟩)
    (by kernel_rfl)
end Go.Proofs.YtifokhheojnipaaGreatDoor
