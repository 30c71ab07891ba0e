/-
  No cell of these rows narrows 'for every input' (looked for: loops, veiled, ifaces, maps, wideKeys, modest, calm, conditions, laid).
  DERIVED. THE GIVEN ROWS OF THIS SEAT. 7 by the template 'for every input the law returns true; each argument reads behind the call as it read before'; 0 by the template 'total and deterministic' (their statements: YtjpjejldinpcnaaTotals.lean).
  GIVEN WITH THE SEED: the statements are not yours to turn. If you find one false, say at which input.
  Laid BY PROGRAM, IN A SANDBOX (cutbox-rows.mjs): the forced cells as the released guide's own fill.sh prints them over the translation eec6c4f23de90ef4… (all of the seat's roots in one cut). By AI agents, Wed Nov 11 2026. No macro, syntax, notation, axiom, sorry.
-/
import Derived.Test.YtjpjejldinpcnaaChecked
import GoSem.Claim
import GoSem.ClaimJoined
import GoSem.ClaimMapViews
import Derived.JoinedTies
import Derived.KernelRfl
namespace Go.Proofs.Ytjpjejldinpcnaa
/- THE CELL 'sum', in the pinned program and in every row, IS THE sha256 OF THE DUMP (.gsa) THAT YtjpjejldinpcnaaProg.lean LOADS. Nothing in Lean hashes anything: it is a label: what it is worth is what the hold of that sum in a sandbox is worth. -/
noncomputable def Try.pinned : Pinned := { name := "ytjpjejldinpcnaa", sum := "eec6c4f23de90ef44d70c863f6a3fa2b6caaa58b320521c178c54c21d24922cb", checked := Try.checked }
namespace Rows
def none {H : Type} : Left H := { results := [], args := [] }

/-- 'strongroomlaw14.EnvelopeBlobs': WHATEVER THE INPUT: true; the input reads as it did. -/
def envelopeBlobsSpec : ChangeSpec := { name := "envelopeBlobs", fn := fun _ => fun
  | [d1, d2, d3] => { results := [.lit (.bool true)], args := [d1, d2, d3] }
  | _ => none }
def envelopeBlobsRow : OpenClaim := { program := "ytjpjejldinpcnaa", sum := "eec6c4f23de90ef44d70c863f6a3fa2b6caaa58b320521c178c54c21d24922cb", func := "strongroom/strongroomlaw14.EnvelopeBlobs", spec := "envelopeBlobs", apart := false }
def EnvelopeBlobsSaid : Prop := envelopeBlobsRow.holds Try.pinned (OpenSpec.ofChange envelopeBlobsSpec)

/-- ITS FALSE NEIGHBOUR: 'it returns false'. Refute it at one input. -/
def envelopeBlobsWrong : ChangeSpec := { name := "envelopeBlobs", fn := fun _ => fun
  | [d1, d2, d3] => { results := [.lit (.bool false)], args := [d1, d2, d3] }
  | _ => none }
def EnvelopeBlobsWrongFalsely : Prop := envelopeBlobsRow.holds Try.pinned (OpenSpec.ofChange envelopeBlobsWrong)

/-- 'strongroomlaw14.EnvelopeTurned': WHATEVER THE INPUT: true; the input reads as it did. -/
def envelopeTurnedSpec : ChangeSpec := { name := "envelopeTurned", fn := fun _ => fun
  | [d1, d2, d3] => { results := [.lit (.bool true)], args := [d1, d2, d3] }
  | _ => none }
def envelopeTurnedRow : OpenClaim := { program := "ytjpjejldinpcnaa", sum := "eec6c4f23de90ef44d70c863f6a3fa2b6caaa58b320521c178c54c21d24922cb", func := "strongroom/strongroomlaw14.EnvelopeTurned", spec := "envelopeTurned", apart := false }
def EnvelopeTurnedSaid : Prop := envelopeTurnedRow.holds Try.pinned (OpenSpec.ofChange envelopeTurnedSpec)

/-- ITS FALSE NEIGHBOUR: 'it returns false'. Refute it at one input. -/
def envelopeTurnedWrong : ChangeSpec := { name := "envelopeTurned", fn := fun _ => fun
  | [d1, d2, d3] => { results := [.lit (.bool false)], args := [d1, d2, d3] }
  | _ => none }
def EnvelopeTurnedWrongFalsely : Prop := envelopeTurnedRow.holds Try.pinned (OpenSpec.ofChange envelopeTurnedWrong)

/-- 'strongroomlaw14.EnvelopeUses': WHATEVER THE INPUT: true; the input reads as it did. -/
def envelopeUsesSpec : ChangeSpec := { name := "envelopeUses", fn := fun _ => fun
  | [d1, d2] => { results := [.lit (.bool true)], args := [d1, d2] }
  | _ => none }
def envelopeUsesRow : OpenClaim := { program := "ytjpjejldinpcnaa", sum := "eec6c4f23de90ef44d70c863f6a3fa2b6caaa58b320521c178c54c21d24922cb", func := "strongroom/strongroomlaw14.EnvelopeUses", spec := "envelopeUses", apart := false }
def EnvelopeUsesSaid : Prop := envelopeUsesRow.holds Try.pinned (OpenSpec.ofChange envelopeUsesSpec)

/-- ITS FALSE NEIGHBOUR: 'it returns false'. Refute it at one input. -/
def envelopeUsesWrong : ChangeSpec := { name := "envelopeUses", fn := fun _ => fun
  | [d1, d2] => { results := [.lit (.bool false)], args := [d1, d2] }
  | _ => none }
def EnvelopeUsesWrongFalsely : Prop := envelopeUsesRow.holds Try.pinned (OpenSpec.ofChange envelopeUsesWrong)

/-- 'strongroomlaw14.EnvelopeBack': WHATEVER THE INPUT: true; the input reads as it did. -/
def envelopeBackSpec : ChangeSpec := { name := "envelopeBack", fn := fun _ => fun
  | [d1, d2, d3] => { results := [.lit (.bool true)], args := [d1, d2, d3] }
  | _ => none }
def envelopeBackRow : OpenClaim := { program := "ytjpjejldinpcnaa", sum := "eec6c4f23de90ef44d70c863f6a3fa2b6caaa58b320521c178c54c21d24922cb", func := "strongroom/strongroomlaw14.EnvelopeBack", spec := "envelopeBack", apart := false }
def EnvelopeBackSaid : Prop := envelopeBackRow.holds Try.pinned (OpenSpec.ofChange envelopeBackSpec)

/-- ITS FALSE NEIGHBOUR: 'it returns false'. Refute it at one input. -/
def envelopeBackWrong : ChangeSpec := { name := "envelopeBack", fn := fun _ => fun
  | [d1, d2, d3] => { results := [.lit (.bool false)], args := [d1, d2, d3] }
  | _ => none }
def EnvelopeBackWrongFalsely : Prop := envelopeBackRow.holds Try.pinned (OpenSpec.ofChange envelopeBackWrong)

/-- 'strongroomlaw14.EnvelopePlays': WHATEVER THE INPUT: true; the input reads as it did. -/
def envelopePlaysSpec : ChangeSpec := { name := "envelopePlays", fn := fun _ => fun
  | [d] => { results := [.lit (.bool true)], args := [d] }
  | _ => none }
def envelopePlaysRow : OpenClaim := { program := "ytjpjejldinpcnaa", sum := "eec6c4f23de90ef44d70c863f6a3fa2b6caaa58b320521c178c54c21d24922cb", func := "strongroom/strongroomlaw14.EnvelopePlays", spec := "envelopePlays", apart := false }
def EnvelopePlaysSaid : Prop := envelopePlaysRow.holds Try.pinned (OpenSpec.ofChange envelopePlaysSpec)

/-- ITS FALSE NEIGHBOUR: 'it returns false'. Refute it at one input. -/
def envelopePlaysWrong : ChangeSpec := { name := "envelopePlays", fn := fun _ => fun
  | [d] => { results := [.lit (.bool false)], args := [d] }
  | _ => none }
def EnvelopePlaysWrongFalsely : Prop := envelopePlaysRow.holds Try.pinned (OpenSpec.ofChange envelopePlaysWrong)

/-- 'strongroomlaw15.SessionsPlay': WHATEVER THE INPUT: true; the input reads as it did. -/
def sessionsPlaySpec : ChangeSpec := { name := "sessionsPlay", fn := fun _ => fun
  | [d] => { results := [.lit (.bool true)], args := [d] }
  | _ => none }
def sessionsPlayRow : OpenClaim := { program := "ytjpjejldinpcnaa", sum := "eec6c4f23de90ef44d70c863f6a3fa2b6caaa58b320521c178c54c21d24922cb", func := "strongroom/strongroomlaw15.SessionsPlay", spec := "sessionsPlay", inPlace := ["maps.clone"], unfollowed := true, recurses := true, apart := false }
def SessionsPlaySaid : Prop := sessionsPlayRow.holds Try.pinned (OpenSpec.ofChange sessionsPlaySpec)

/-- ITS FALSE NEIGHBOUR: 'it returns false'. Refute it at one input. -/
def sessionsPlayWrong : ChangeSpec := { name := "sessionsPlay", fn := fun _ => fun
  | [d] => { results := [.lit (.bool false)], args := [d] }
  | _ => none }
def SessionsPlayWrongFalsely : Prop := sessionsPlayRow.holds Try.pinned (OpenSpec.ofChange sessionsPlayWrong)

/-- 'strongroomlaw15.SessionsOf': WHATEVER THE INPUT: true; the input reads as it did. -/
def sessionsOfSpec : ChangeSpec := { name := "sessionsOf", fn := fun _ => fun
  | [d1, d2] => { results := [.lit (.bool true)], args := [d1, d2] }
  | _ => none }
def sessionsOfRow : OpenClaim := { program := "ytjpjejldinpcnaa", sum := "eec6c4f23de90ef44d70c863f6a3fa2b6caaa58b320521c178c54c21d24922cb", func := "strongroom/strongroomlaw15.SessionsOf", spec := "sessionsOf", unfollowed := true, recurses := true, apart := false }
def SessionsOfSaid : Prop := sessionsOfRow.holds Try.pinned (OpenSpec.ofChange sessionsOfSpec)

/-- ITS FALSE NEIGHBOUR: 'it returns false'. Refute it at one input. -/
def sessionsOfWrong : ChangeSpec := { name := "sessionsOf", fn := fun _ => fun
  | [d1, d2] => { results := [.lit (.bool false)], args := [d1, d2] }
  | _ => none }
def SessionsOfWrongFalsely : Prop := sessionsOfRow.holds Try.pinned (OpenSpec.ofChange sessionsOfWrong)

/- THE SECOND FORM. 'bulk': how many values and letters a reading holds, each counted each time it is reached (what is shared counts as often as it is met; a slice's spare places count too). A statement '..UptoSaid' is the law's where the arguments, and the package variables that the reading takes, are together of bulk at most 1048576: NARROWER than '..Said'. Prove '..Said' where nothing that the law and all that it calls make is longer than what came in: it says more and counts as full. Else prove '..UptoSaid'. A law counts once. -/
mutual
def uptoBulk {H : Type} : DataW H → Nat
  | .lit (.string bytes) => bytes.length + 1
  | .lit _ => 1
  | .nil => 1
  | .ptr d => uptoBulk d + 1
  | .slice elems spare => uptoBulkAll elems + uptoBulkAll spare + 1
  | .agg parts => uptoBulkAll parts + 1
  | .iface _ d => uptoBulk d + 1
  | .map entries => uptoBulkEntries entries + 1
  | .held _ => 1
def uptoBulkAll {H : Type} : List (DataW H) → Nat
  | [] => 0
  | d :: r => uptoBulk d + uptoBulkAll r
def uptoBulkEntries {H : Type} : List (Lit × DataW H) → Nat
  | [] => 0
  | x :: r => uptoBulkEntry x + uptoBulkEntries r
def uptoBulkEntry {H : Type} : Lit × DataW H → Nat
  | (.string bytes, d) => bytes.length + uptoBulk d + 1
  | (_, d) => uptoBulk d + 1
 end
def uptoSmall : (H : Type) → List (DataW H) → Bool := fun _ ds => decide (uptoBulkAll ds ≤ 1048576)
def OpenSpec.upto (s : _root_.Go.ChangeSpec) : _root_.Go.OpenSpec := { _root_.Go.OpenSpec.ofChange s with cond := some uptoSmall }

/-- 'strongroomlaw14.EnvelopeBlobs', WHERE WHAT IT READS IS OF BULK AT MOST 1048576: true; the input reads as it did. -/
def envelopeBlobsUptoRow : OpenClaim := { program := "ytjpjejldinpcnaa", sum := "eec6c4f23de90ef44d70c863f6a3fa2b6caaa58b320521c178c54c21d24922cb", func := "strongroom/strongroomlaw14.EnvelopeBlobs", spec := "envelopeBlobs", apart := false, narrowed := true }
def EnvelopeBlobsUptoSaid : Prop := envelopeBlobsUptoRow.holds Try.pinned (OpenSpec.upto envelopeBlobsSpec)

/-- 'strongroomlaw14.EnvelopeTurned', WHERE WHAT IT READS IS OF BULK AT MOST 1048576: true; the input reads as it did. -/
def envelopeTurnedUptoRow : OpenClaim := { program := "ytjpjejldinpcnaa", sum := "eec6c4f23de90ef44d70c863f6a3fa2b6caaa58b320521c178c54c21d24922cb", func := "strongroom/strongroomlaw14.EnvelopeTurned", spec := "envelopeTurned", apart := false, narrowed := true }
def EnvelopeTurnedUptoSaid : Prop := envelopeTurnedUptoRow.holds Try.pinned (OpenSpec.upto envelopeTurnedSpec)

/-- 'strongroomlaw14.EnvelopeUses', WHERE WHAT IT READS IS OF BULK AT MOST 1048576: true; the input reads as it did. -/
def envelopeUsesUptoRow : OpenClaim := { program := "ytjpjejldinpcnaa", sum := "eec6c4f23de90ef44d70c863f6a3fa2b6caaa58b320521c178c54c21d24922cb", func := "strongroom/strongroomlaw14.EnvelopeUses", spec := "envelopeUses", apart := false, narrowed := true }
def EnvelopeUsesUptoSaid : Prop := envelopeUsesUptoRow.holds Try.pinned (OpenSpec.upto envelopeUsesSpec)

/-- 'strongroomlaw14.EnvelopeBack', WHERE WHAT IT READS IS OF BULK AT MOST 1048576: true; the input reads as it did. -/
def envelopeBackUptoRow : OpenClaim := { program := "ytjpjejldinpcnaa", sum := "eec6c4f23de90ef44d70c863f6a3fa2b6caaa58b320521c178c54c21d24922cb", func := "strongroom/strongroomlaw14.EnvelopeBack", spec := "envelopeBack", apart := false, narrowed := true }
def EnvelopeBackUptoSaid : Prop := envelopeBackUptoRow.holds Try.pinned (OpenSpec.upto envelopeBackSpec)

/-- 'strongroomlaw14.EnvelopePlays', WHERE WHAT IT READS IS OF BULK AT MOST 1048576: true; the input reads as it did. -/
def envelopePlaysUptoRow : OpenClaim := { program := "ytjpjejldinpcnaa", sum := "eec6c4f23de90ef44d70c863f6a3fa2b6caaa58b320521c178c54c21d24922cb", func := "strongroom/strongroomlaw14.EnvelopePlays", spec := "envelopePlays", apart := false, narrowed := true }
def EnvelopePlaysUptoSaid : Prop := envelopePlaysUptoRow.holds Try.pinned (OpenSpec.upto envelopePlaysSpec)

/-- 'strongroomlaw15.SessionsPlay', WHERE WHAT IT READS IS OF BULK AT MOST 1048576: true; the input reads as it did. -/
def sessionsPlayUptoRow : OpenClaim := { program := "ytjpjejldinpcnaa", sum := "eec6c4f23de90ef44d70c863f6a3fa2b6caaa58b320521c178c54c21d24922cb", func := "strongroom/strongroomlaw15.SessionsPlay", spec := "sessionsPlay", inPlace := ["maps.clone"], unfollowed := true, recurses := true, apart := false, narrowed := true }
def SessionsPlayUptoSaid : Prop := sessionsPlayUptoRow.holds Try.pinned (OpenSpec.upto sessionsPlaySpec)

/-- 'strongroomlaw15.SessionsOf', WHERE WHAT IT READS IS OF BULK AT MOST 1048576: true; the input reads as it did. -/
def sessionsOfUptoRow : OpenClaim := { program := "ytjpjejldinpcnaa", sum := "eec6c4f23de90ef44d70c863f6a3fa2b6caaa58b320521c178c54c21d24922cb", func := "strongroom/strongroomlaw15.SessionsOf", spec := "sessionsOf", unfollowed := true, recurses := true, apart := false, narrowed := true }
def SessionsOfUptoSaid : Prop := sessionsOfUptoRow.holds Try.pinned (OpenSpec.upto sessionsOfSpec)

end Rows
end Go.Proofs.Ytjpjejldinpcnaa
