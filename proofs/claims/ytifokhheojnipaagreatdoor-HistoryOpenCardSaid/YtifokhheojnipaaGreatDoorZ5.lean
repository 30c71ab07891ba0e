/- HistoryOpen: the row holds. -/
import Derived.Test.YtifokhheojnipaaGreatDoorZ4
import Derived.Test.YtifokhheojnipaaGreatDoorTie
import Derived.SevenTiedAt
set_option linter.unusedVariables false
set_option linter.unusedSimpArgs false
namespace Go.Proofs.YtifokhheojnipaaGreatDoor
open Go.ChangeShapes Go.WideShapes Go.ChangeAt Go.RowKit Go.SL Go.GX
set_option maxRecDepth 100000
theorem n7 : Tryz.pinned.checked.prog.funcNamed Rows.historyOpenRow.func = some 7 := by kernel_rfl
theorem w7 : Tryz.f7.isWrapper Tryz.pinned.checked.prog Rows.historyOpenRow.wrapper Rows.historyOpenRow.mainSum := by unfold Func.isWrapper; rw [if_neg (of_decide_eq_false (by kernel_rfl))]; exact ⟨rfl, rfl⟩
theorem i7 : Tryz.f7.isInstance Tryz.pinned.checked.prog Rows.historyOpenRow.origin Rows.historyOpenRow.targs := of_decide_eq_true (by kernel_rfl)
theorem open_holds : Rows.HistoryOpenSaid :=
  OpenClaim.holds_of_wide 7 Tryz.f7 rfl rfl rfl rfl rfl rfl rfl ⟨rfl, rfl, rfl, rfl, rfl⟩ rfl rfl rfl rfl rfl n7 fun7 j7 i7 w7
    (fun os started H enc _ => open_lifted os started H enc)
end Go.Proofs.YtifokhheojnipaaGreatDoor
namespace Go.Proofs.YtifokhheojnipaaGreatDoor
open Go
set_option maxRecDepth 100000
theorem open_proved : Rows.HistoryOpenCardSaid :=
  Claim7.holds_tied_plain_at .later [] [.data] true (true, "3ee861d6cc30e1f2dac45a0ab06a9aa49132ebd5f7de234dd5bee481380b0530") true
    open_holds (fun _ h => by cases h) (by kernel_rfl) (fun _ h => by cases h) historyOpen_row_tie rfl ⟨rfl, rfl⟩ (by kernel_rfl) rfl
    (fun f fn hf hfn => by
      obtain rfl : f = 7 := Option.some.inj ((show Tryz.prog.funcNamed "strongroom/strongroomlaw23.HistoryOpen" = some 7 by kernel_rfl).symm.trans hf) |>.symm
      obtain rfl : fn = Tryz.f7 := (Option.some.inj (fun7.symm.trans hfn)).symm
      exact ⟨by kernel_rfl, fun j t ht => by
        rw [par7] at ht
        have h3 : t = 22 ∨ t = 49 := by
          rcases j with _ | _ | j
          · exact .inl (by simpa using ht.symm)
          · exact .inr (by simpa using ht.symm)
          · simp at ht
        rcases h3 with rfl | rfl
        · exact (show Tryz.prog.wantsStandIn 22 = false by kernel_rfl)
        · exact (show Tryz.prog.wantsStandIn 49 = false by kernel_rfl)⟩)
    (by kernel_rfl)
end Go.Proofs.YtifokhheojnipaaGreatDoor
