/-
  DERIVED. GIVEN WITH THE SEED: THE CARDS: each row of YtifokhheojnipaaGreatDoorRows.lean that lists a variable, with what it lists TIED to the program's text (the seventh form; the later family's looks); each row that meets fmt, with fmt's text TOLD by the authors' own Lean function (tested against real Go, not proved from fmt's source: count such statements apart). THE CARD IS WHAT COUNTS. Prove the row's statement (the work); the ties are given (YtifokhheojnipaaGreatDoorTie.lean); close each card by the builder's one call (the guide's Derived/Test/ToyasCard.lean, 'card_holds'). Laid BY PROGRAM, IN A SANDBOX (cutbox-door.mjs). By AI agents, Wed Nov 11 2026. No macro, syntax, notation, axiom, sorry.
-/
import Derived.Test.YtifokhheojnipaaGreatDoorRows
import GoSem.ClaimSeven
namespace Go.Proofs.YtifokhheojnipaaGreatDoor
namespace Rows

/-- THE TIED CARD OF 'strongroomlaw16.StoreMaterials'. -/
def storeMaterialsCard : Claim7 := { stood := { row := storeMaterialsRow, standIns := [], harness := (true, "3ee861d6cc30e1f2dac45a0ab06a9aa49132ebd5f7de234dd5bee481380b0530"), looks := true }, kinds := [], alts := [], laidByText := true, laidKinds := [.data], laidTests := true, laidLooks := .later }
def StoreMaterialsCardSaid : Prop := Claim7.holds Tryz.pinned (.plain (OpenSpec.ofChange storeMaterialsSpec)) storeMaterialsCard

/-- THE TIED CARD OF 'strongroomlaw23.HistoryChecks'. -/
def historyChecksCard : Claim7 := { stood := { row := historyChecksRow, standIns := [], harness := (true, "3ee861d6cc30e1f2dac45a0ab06a9aa49132ebd5f7de234dd5bee481380b0530"), looks := true }, kinds := [], alts := [], laidByText := true, laidKinds := [.data], laidTests := true, laidLooks := .later }
def HistoryChecksCardSaid : Prop := Claim7.holds Tryz.pinned (.plain (OpenSpec.ofChange historyChecksSpec)) historyChecksCard

/-- THE TIED CARD OF 'strongroomlaw23.HistoryTrue'. -/
def historyTrueCard : Claim7 := { stood := { row := historyTrueRow, standIns := [], harness := (true, "3ee861d6cc30e1f2dac45a0ab06a9aa49132ebd5f7de234dd5bee481380b0530"), looks := true }, kinds := [], alts := [], laidByText := true, laidKinds := [.data], laidTests := true, laidLooks := .later }
def HistoryTrueCardSaid : Prop := Claim7.holds Tryz.pinned (.plain (OpenSpec.ofChange historyTrueSpec)) historyTrueCard

/-- THE TIED CARD OF 'strongroomlaw23.HistoryTurned'. -/
def historyTurnedCard : Claim7 := { stood := { row := historyTurnedRow, standIns := [], harness := (true, "3ee861d6cc30e1f2dac45a0ab06a9aa49132ebd5f7de234dd5bee481380b0530"), looks := true }, kinds := [], alts := [], laidByText := true, laidKinds := [.data], laidTests := true, laidLooks := .later }
def HistoryTurnedCardSaid : Prop := Claim7.holds Tryz.pinned (.plain (OpenSpec.ofChange historyTurnedSpec)) historyTurnedCard

/-- THE TIED CARD OF 'strongroomlaw23.HistoryOpen'. -/
def historyOpenCard : Claim7 := { stood := { row := historyOpenRow, standIns := [], harness := (true, "3ee861d6cc30e1f2dac45a0ab06a9aa49132ebd5f7de234dd5bee481380b0530"), looks := true }, kinds := [], alts := [], laidByText := true, laidKinds := [.data], laidTests := true, laidLooks := .later }
def HistoryOpenCardSaid : Prop := Claim7.holds Tryz.pinned (.plain (OpenSpec.ofChange historyOpenSpec)) historyOpenCard

/-- THE TIED CARD OF 'strongroomlaw23.HistoryOnce'. -/
def historyOnceCard : Claim7 := { stood := { row := historyOnceRow, standIns := [], harness := (true, "3ee861d6cc30e1f2dac45a0ab06a9aa49132ebd5f7de234dd5bee481380b0530"), looks := true }, kinds := [], alts := [], laidByText := true, laidKinds := [.data], laidTests := true, laidLooks := .later }
def HistoryOnceCardSaid : Prop := Claim7.holds Tryz.pinned (.plain (OpenSpec.ofChange historyOnceSpec)) historyOnceCard

/-- THE TIED CARD OF 'strongroomlaw16.StoreAgain'. -/
def storeAgainCard : Claim7 := { stood := { row := storeAgainRow, standIns := [], harness := (true, "3ee861d6cc30e1f2dac45a0ab06a9aa49132ebd5f7de234dd5bee481380b0530"), looks := true }, kinds := [], alts := [], laidByText := true, laidKinds := [.data], laidTests := true, laidLooks := .later }
def StoreAgainCardSaid : Prop := Claim7.holds Tryz.pinned (.plain (OpenSpec.ofChange storeAgainSpec)) storeAgainCard

/-- THE TIED CARD OF 'strongroomlaw16.StoreRefuses'. -/
def storeRefusesCard : Claim7 := { stood := { row := storeRefusesRow, standIns := [], harness := (true, "3ee861d6cc30e1f2dac45a0ab06a9aa49132ebd5f7de234dd5bee481380b0530"), looks := true }, kinds := [], alts := [], laidByText := true, laidKinds := [.data], laidTests := true, laidLooks := .later }
def StoreRefusesCardSaid : Prop := Claim7.holds Tryz.pinned (.plain (OpenSpec.ofChange storeRefusesSpec)) storeRefusesCard

/-- THE TIED CARD OF 'strongroomlaw16.StorePlays'. -/
def storePlaysCard : Claim7 := { stood := { row := storePlaysRow, standIns := [], harness := (true, "3ee861d6cc30e1f2dac45a0ab06a9aa49132ebd5f7de234dd5bee481380b0530"), looks := true }, kinds := [], alts := [], laidByText := true, laidKinds := [.data], laidTests := true, laidLooks := .later }
def StorePlaysCardSaid : Prop := Claim7.holds Tryz.pinned (.plain (OpenSpec.ofChange storePlaysSpec)) storePlaysCard

/-- THE TIED CARD OF 'strongroomlaw16.StoreReads'. -/
def storeReadsCard : Claim7 := { stood := { row := storeReadsRow, standIns := [], harness := (true, "3ee861d6cc30e1f2dac45a0ab06a9aa49132ebd5f7de234dd5bee481380b0530"), looks := true }, kinds := [], alts := [], laidByText := true, laidKinds := [.data], laidTests := true, laidLooks := .later }
def StoreReadsCardSaid : Prop := Claim7.holds Tryz.pinned (.plain (OpenSpec.ofChange storeReadsSpec)) storeReadsCard

/-- THE TIED CARD OF 'strongroomlaw16.StoreBack'. -/
def storeBackCard : Claim7 := { stood := { row := storeBackRow, standIns := [], harness := (true, "3ee861d6cc30e1f2dac45a0ab06a9aa49132ebd5f7de234dd5bee481380b0530"), looks := true }, kinds := [], alts := [], laidByText := true, laidKinds := [.data], laidTests := true, laidLooks := .later }
def StoreBackCardSaid : Prop := Claim7.holds Tryz.pinned (.plain (OpenSpec.ofChange storeBackSpec)) storeBackCard

/-- THE SECOND FORM's CARD OF 'strongroomlaw16.StoreMaterials'. -/
def storeMaterialsUptoCard : Claim7 := { stood := { row := storeMaterialsUptoRow, standIns := [], harness := (true, "3ee861d6cc30e1f2dac45a0ab06a9aa49132ebd5f7de234dd5bee481380b0530"), looks := true }, kinds := [], alts := [], laidByText := true, laidKinds := [.data], laidTests := true, laidLooks := .later }
def StoreMaterialsUptoCardSaid : Prop := Claim7.holds Tryz.pinned (.plain (OpenSpec.upto storeMaterialsSpec)) storeMaterialsUptoCard

/-- THE SECOND FORM's CARD OF 'strongroomlaw23.HistoryChecks'. -/
def historyChecksUptoCard : Claim7 := { stood := { row := historyChecksUptoRow, standIns := [], harness := (true, "3ee861d6cc30e1f2dac45a0ab06a9aa49132ebd5f7de234dd5bee481380b0530"), looks := true }, kinds := [], alts := [], laidByText := true, laidKinds := [.data], laidTests := true, laidLooks := .later }
def HistoryChecksUptoCardSaid : Prop := Claim7.holds Tryz.pinned (.plain (OpenSpec.upto historyChecksSpec)) historyChecksUptoCard

/-- THE SECOND FORM's CARD OF 'strongroomlaw23.HistoryTrue'. -/
def historyTrueUptoCard : Claim7 := { stood := { row := historyTrueUptoRow, standIns := [], harness := (true, "3ee861d6cc30e1f2dac45a0ab06a9aa49132ebd5f7de234dd5bee481380b0530"), looks := true }, kinds := [], alts := [], laidByText := true, laidKinds := [.data], laidTests := true, laidLooks := .later }
def HistoryTrueUptoCardSaid : Prop := Claim7.holds Tryz.pinned (.plain (OpenSpec.upto historyTrueSpec)) historyTrueUptoCard

/-- THE SECOND FORM's CARD OF 'strongroomlaw23.HistoryTurned'. -/
def historyTurnedUptoCard : Claim7 := { stood := { row := historyTurnedUptoRow, standIns := [], harness := (true, "3ee861d6cc30e1f2dac45a0ab06a9aa49132ebd5f7de234dd5bee481380b0530"), looks := true }, kinds := [], alts := [], laidByText := true, laidKinds := [.data], laidTests := true, laidLooks := .later }
def HistoryTurnedUptoCardSaid : Prop := Claim7.holds Tryz.pinned (.plain (OpenSpec.upto historyTurnedSpec)) historyTurnedUptoCard

/-- THE SECOND FORM's CARD OF 'strongroomlaw23.HistoryOpen'. -/
def historyOpenUptoCard : Claim7 := { stood := { row := historyOpenUptoRow, standIns := [], harness := (true, "3ee861d6cc30e1f2dac45a0ab06a9aa49132ebd5f7de234dd5bee481380b0530"), looks := true }, kinds := [], alts := [], laidByText := true, laidKinds := [.data], laidTests := true, laidLooks := .later }
def HistoryOpenUptoCardSaid : Prop := Claim7.holds Tryz.pinned (.plain (OpenSpec.upto historyOpenSpec)) historyOpenUptoCard

/-- THE SECOND FORM's CARD OF 'strongroomlaw23.HistoryOnce'. -/
def historyOnceUptoCard : Claim7 := { stood := { row := historyOnceUptoRow, standIns := [], harness := (true, "3ee861d6cc30e1f2dac45a0ab06a9aa49132ebd5f7de234dd5bee481380b0530"), looks := true }, kinds := [], alts := [], laidByText := true, laidKinds := [.data], laidTests := true, laidLooks := .later }
def HistoryOnceUptoCardSaid : Prop := Claim7.holds Tryz.pinned (.plain (OpenSpec.upto historyOnceSpec)) historyOnceUptoCard

/-- THE SECOND FORM's CARD OF 'strongroomlaw16.StoreAgain'. -/
def storeAgainUptoCard : Claim7 := { stood := { row := storeAgainUptoRow, standIns := [], harness := (true, "3ee861d6cc30e1f2dac45a0ab06a9aa49132ebd5f7de234dd5bee481380b0530"), looks := true }, kinds := [], alts := [], laidByText := true, laidKinds := [.data], laidTests := true, laidLooks := .later }
def StoreAgainUptoCardSaid : Prop := Claim7.holds Tryz.pinned (.plain (OpenSpec.upto storeAgainSpec)) storeAgainUptoCard

/-- THE SECOND FORM's CARD OF 'strongroomlaw16.StoreRefuses'. -/
def storeRefusesUptoCard : Claim7 := { stood := { row := storeRefusesUptoRow, standIns := [], harness := (true, "3ee861d6cc30e1f2dac45a0ab06a9aa49132ebd5f7de234dd5bee481380b0530"), looks := true }, kinds := [], alts := [], laidByText := true, laidKinds := [.data], laidTests := true, laidLooks := .later }
def StoreRefusesUptoCardSaid : Prop := Claim7.holds Tryz.pinned (.plain (OpenSpec.upto storeRefusesSpec)) storeRefusesUptoCard

/-- THE SECOND FORM's CARD OF 'strongroomlaw16.StorePlays'. -/
def storePlaysUptoCard : Claim7 := { stood := { row := storePlaysUptoRow, standIns := [], harness := (true, "3ee861d6cc30e1f2dac45a0ab06a9aa49132ebd5f7de234dd5bee481380b0530"), looks := true }, kinds := [], alts := [], laidByText := true, laidKinds := [.data], laidTests := true, laidLooks := .later }
def StorePlaysUptoCardSaid : Prop := Claim7.holds Tryz.pinned (.plain (OpenSpec.upto storePlaysSpec)) storePlaysUptoCard

/-- THE SECOND FORM's CARD OF 'strongroomlaw16.StoreReads'. -/
def storeReadsUptoCard : Claim7 := { stood := { row := storeReadsUptoRow, standIns := [], harness := (true, "3ee861d6cc30e1f2dac45a0ab06a9aa49132ebd5f7de234dd5bee481380b0530"), looks := true }, kinds := [], alts := [], laidByText := true, laidKinds := [.data], laidTests := true, laidLooks := .later }
def StoreReadsUptoCardSaid : Prop := Claim7.holds Tryz.pinned (.plain (OpenSpec.upto storeReadsSpec)) storeReadsUptoCard

/-- THE SECOND FORM's CARD OF 'strongroomlaw16.StoreBack'. -/
def storeBackUptoCard : Claim7 := { stood := { row := storeBackUptoRow, standIns := [], harness := (true, "3ee861d6cc30e1f2dac45a0ab06a9aa49132ebd5f7de234dd5bee481380b0530"), looks := true }, kinds := [], alts := [], laidByText := true, laidKinds := [.data], laidTests := true, laidLooks := .later }
def StoreBackUptoCardSaid : Prop := Claim7.holds Tryz.pinned (.plain (OpenSpec.upto storeBackSpec)) storeBackUptoCard
end Rows
end Go.Proofs.YtifokhheojnipaaGreatDoor
