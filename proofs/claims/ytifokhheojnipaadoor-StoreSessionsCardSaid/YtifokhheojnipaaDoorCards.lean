/-
  DERIVED. GIVEN WITH THE SEED: THE CARDS: each row of YtifokhheojnipaaDoorRows.lean that lists a variable, with what it lists TIED to the program's text (the seventh form; the later family's looks); each row that meets fmt, with fmt's text TOLD by the authors' own Lean function (tested against real Go, not proved from fmt's source: count such statements apart). THE CARD IS WHAT COUNTS. Prove the row's statement (the work); the ties are given (YtifokhheojnipaaDoorTie.lean); close each card by the builder's one call (the guide's Derived/Test/ToyasCard.lean, 'card_holds'). Laid BY PROGRAM, IN A SANDBOX (cutbox-door.mjs). By AI agents, Wed Nov 11 2026. No macro, syntax, notation, axiom, sorry.
-/
import Derived.Test.YtifokhheojnipaaDoorRows
import GoSem.ClaimSeven
namespace Go.Proofs.YtifokhheojnipaaDoor
namespace Rows

/-- THE TIED CARD OF 'strongroomlaw16.StoreSessions'. -/
def storeSessionsCard : Claim7 := { stood := { row := storeSessionsRow, standIns := [], harness := (true, "8caeb1a29b824e65bb64218a29894eacd4e8f86f5a623bfa05622f3de55232f4"), looks := false }, kinds := [], alts := [], laidByText := true, laidKinds := [.data], laidTests := true, laidLooks := .later }
def StoreSessionsCardSaid : Prop := Claim7.holds Tryd.pinned (.plain (OpenSpec.ofChange storeSessionsSpec)) storeSessionsCard

/-- THE SECOND FORM's CARD OF 'strongroomlaw16.StoreSessions'. -/
def storeSessionsUptoCard : Claim7 := { stood := { row := storeSessionsUptoRow, standIns := [], harness := (true, "8caeb1a29b824e65bb64218a29894eacd4e8f86f5a623bfa05622f3de55232f4"), looks := false }, kinds := [], alts := [], laidByText := true, laidKinds := [.data], laidTests := true, laidLooks := .later }
def StoreSessionsUptoCardSaid : Prop := Claim7.holds Tryd.pinned (.plain (OpenSpec.upto storeSessionsSpec)) storeSessionsUptoCard
end Rows
end Go.Proofs.YtifokhheojnipaaDoor
