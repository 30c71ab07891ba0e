/- StoreSessions: the row holds. -/
import Derived.Test.YtifokhheojnipaaDoorZ4
import Derived.Test.YtifokhheojnipaaDoorTie
import Derived.SevenTiedAt
set_option linter.unusedVariables false
set_option linter.unusedSimpArgs false
set_option linter.unnecessarySimpa false
namespace Go.Proofs.YtifokhheojnipaaDoor
open Go.ChangeShapes Go.WideShapes Go.ChangeAt Go.RowKit Go.SL Go.GX
set_option maxRecDepth 100000
theorem n3 : Tryd.pinned.checked.prog.funcNamed Rows.storeSessionsRow.func = some 3 := by kernel_rfl
theorem w3 : Tryd.f3.isWrapper Tryd.pinned.checked.prog Rows.storeSessionsRow.wrapper Rows.storeSessionsRow.mainSum := by unfold Func.isWrapper; rw [if_neg (of_decide_eq_false (by kernel_rfl))]; exact ⟨rfl, rfl⟩
theorem i3 : Tryd.f3.isInstance Tryd.pinned.checked.prog Rows.storeSessionsRow.origin Rows.storeSessionsRow.targs := of_decide_eq_true (by kernel_rfl)
theorem sess_holds : Rows.StoreSessionsSaid :=
  OpenClaim.holds_of_wide 3 Tryd.f3 rfl rfl rfl rfl rfl rfl rfl ⟨rfl, rfl, rfl, rfl, rfl⟩ rfl rfl rfl rfl rfl n3 fun3 j3 i3 w3
    (fun os started H enc _ => lifted os started H enc)
end Go.Proofs.YtifokhheojnipaaDoor
namespace Go.Proofs.YtifokhheojnipaaDoor
open Go
set_option maxRecDepth 100000
theorem storeSessions_proved : Rows.StoreSessionsCardSaid :=
  Claim7.holds_tied_plain_at .later [] [.data] true (true, "8caeb1a29b824e65bb64218a29894eacd4e8f86f5a623bfa05622f3de55232f4") false
    sess_holds (fun _ h => by cases h) (by kernel_rfl) (fun _ h => by cases h) storeSessions_row_tie rfl ⟨rfl, rfl⟩ (by kernel_rfl) rfl
    (fun f fn hf hfn => by
      obtain rfl : f = 3 := Option.some.inj ((show Tryd.prog.funcNamed "strongroom/strongroomlaw16.StoreSessions" = some 3 by kernel_rfl).symm.trans hf) |>.symm
      obtain rfl : fn = Tryd.f3 := (Option.some.inj (fun3.symm.trans hfn)).symm
      exact ⟨by kernel_rfl, fun j t ht => by
        rw [par3] at ht
        have h3 : t = 22 ∨ t = 3 := by
          rcases j with _ | _ | j
          · exact .inl (by simpa using ht.symm)
          · exact .inr (by simpa using ht.symm)
          · simp at ht
        rcases h3 with rfl | rfl
        · exact (show Tryd.prog.wantsStandIn 22 = false by kernel_rfl)
        · exact (show Tryd.prog.wantsStandIn 3 = false by kernel_rfl)⟩)
    (by kernel_rfl)
end Go.Proofs.YtifokhheojnipaaDoor
