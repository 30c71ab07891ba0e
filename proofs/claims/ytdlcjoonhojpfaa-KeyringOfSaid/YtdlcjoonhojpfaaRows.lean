/-
  No cell of these rows narrows 'for every input' (looked for: loops, veiled, ifaces, maps, wideKeys, modest, calm, conditions, laid).
  DERIVED. THE GIVEN ROWS OF THIS SEAT. 12 by the template 'for every input the law returns true; each argument reads behind the call as it read before'; 0 by the template 'total and deterministic' (their statements: YtdlcjoonhojpfaaTotals.lean).
  GIVEN WITH THE SEED: the statements are not yours to turn. If you find one false, say at which input.
  Laid BY PROGRAM, IN A SANDBOX (cutbox-rows.mjs): the forced cells as the released guide's own fill.sh prints them over the translation 48651c127e775d66… (all of the seat's roots in one cut). By AI agents, Wed Nov 11 2026. No macro, syntax, notation, axiom, sorry.
-/
import Derived.Test.YtdlcjoonhojpfaaChecked
import GoSem.Claim
import GoSem.ClaimJoined
import GoSem.ClaimMapViews
import Derived.JoinedTies
import Derived.KernelRfl
namespace Go.Proofs.Ytdlcjoonhojpfaa
/- THE CELL 'sum', in the pinned program and in every row, IS THE sha256 OF THE DUMP (.gsa) THAT YtdlcjoonhojpfaaProg.lean LOADS. Nothing in Lean hashes anything: it is a label: what it is worth is what the hold of that sum in a sandbox is worth. -/
noncomputable def Try.pinned : Pinned := { name := "ytdlcjoonhojpfaa", sum := "48651c127e775d662ddd00de5cadf3d72c2d8576ed07f06314e8e6786ebbf0d8", checked := Try.checked }
namespace Rows
def none {H : Type} : Left H := { results := [], args := [] }

/-- 'strongroomlaw15.SessionsOnce': WHATEVER THE INPUT: true; the input reads as it did. -/
def sessionsOnceSpec : ChangeSpec := { name := "sessionsOnce", fn := fun _ => fun
  | [d] => { results := [.lit (.bool true)], args := [d] }
  | _ => none }
def sessionsOnceRow : OpenClaim := { program := "ytdlcjoonhojpfaa", sum := "48651c127e775d662ddd00de5cadf3d72c2d8576ed07f06314e8e6786ebbf0d8", func := "strongroom/strongroomlaw15.SessionsOnce", spec := "sessionsOnce", apart := false }
def SessionsOnceSaid : Prop := sessionsOnceRow.holds Try.pinned (OpenSpec.ofChange sessionsOnceSpec)

/-- ITS FALSE NEIGHBOUR: 'it returns false'. Refute it at one input. -/
def sessionsOnceWrong : ChangeSpec := { name := "sessionsOnce", fn := fun _ => fun
  | [d] => { results := [.lit (.bool false)], args := [d] }
  | _ => none }
def SessionsOnceWrongFalsely : Prop := sessionsOnceRow.holds Try.pinned (OpenSpec.ofChange sessionsOnceWrong)

/-- 'strongroomlaw15.SessionsApart': WHATEVER THE INPUT: true; the input reads as it did. -/
def sessionsApartSpec : ChangeSpec := { name := "sessionsApart", fn := fun _ => fun
  | [d1, d2, d3] => { results := [.lit (.bool true)], args := [d1, d2, d3] }
  | _ => none }
def sessionsApartRow : OpenClaim := { program := "ytdlcjoonhojpfaa", sum := "48651c127e775d662ddd00de5cadf3d72c2d8576ed07f06314e8e6786ebbf0d8", func := "strongroom/strongroomlaw15.SessionsApart", spec := "sessionsApart", apart := false }
def SessionsApartSaid : Prop := sessionsApartRow.holds Try.pinned (OpenSpec.ofChange sessionsApartSpec)

/-- ITS FALSE NEIGHBOUR: 'it returns false'. Refute it at one input. -/
def sessionsApartWrong : ChangeSpec := { name := "sessionsApart", fn := fun _ => fun
  | [d1, d2, d3] => { results := [.lit (.bool false)], args := [d1, d2, d3] }
  | _ => none }
def SessionsApartWrongFalsely : Prop := sessionsApartRow.holds Try.pinned (OpenSpec.ofChange sessionsApartWrong)

/-- 'strongroomlaw17.EntriesJoined': WHATEVER THE INPUT: true; the input reads as it did. -/
def entriesJoinedSpec : ChangeSpec := { name := "entriesJoined", fn := fun _ => fun
  | [d1, d2, d3] => { results := [.lit (.bool true)], args := [d1, d2, d3] }
  | _ => none }
def entriesJoinedRow : OpenClaim := { program := "ytdlcjoonhojpfaa", sum := "48651c127e775d662ddd00de5cadf3d72c2d8576ed07f06314e8e6786ebbf0d8", func := "strongroom/strongroomlaw17.EntriesJoined", spec := "entriesJoined", unfollowed := true, recurses := true, apart := false }
def EntriesJoinedSaid : Prop := entriesJoinedRow.holds Try.pinned (OpenSpec.ofChange entriesJoinedSpec)

/-- ITS FALSE NEIGHBOUR: 'it returns false'. Refute it at one input. -/
def entriesJoinedWrong : ChangeSpec := { name := "entriesJoined", fn := fun _ => fun
  | [d1, d2, d3] => { results := [.lit (.bool false)], args := [d1, d2, d3] }
  | _ => none }
def EntriesJoinedWrongFalsely : Prop := entriesJoinedRow.holds Try.pinned (OpenSpec.ofChange entriesJoinedWrong)

/-- 'strongroomlaw17.EntriesBehind': WHATEVER THE INPUT: true; the input reads as it did. -/
def entriesBehindSpec : ChangeSpec := { name := "entriesBehind", fn := fun _ => fun
  | [d1, d2] => { results := [.lit (.bool true)], args := [d1, d2] }
  | _ => none }
def entriesBehindRow : OpenClaim := { program := "ytdlcjoonhojpfaa", sum := "48651c127e775d662ddd00de5cadf3d72c2d8576ed07f06314e8e6786ebbf0d8", func := "strongroom/strongroomlaw17.EntriesBehind", spec := "entriesBehind", unfollowed := true, recurses := true, apart := false }
def EntriesBehindSaid : Prop := entriesBehindRow.holds Try.pinned (OpenSpec.ofChange entriesBehindSpec)

/-- ITS FALSE NEIGHBOUR: 'it returns false'. Refute it at one input. -/
def entriesBehindWrong : ChangeSpec := { name := "entriesBehind", fn := fun _ => fun
  | [d1, d2] => { results := [.lit (.bool false)], args := [d1, d2] }
  | _ => none }
def EntriesBehindWrongFalsely : Prop := entriesBehindRow.holds Try.pinned (OpenSpec.ofChange entriesBehindWrong)

/-- 'strongroomlaw17.EntriesFrom': WHATEVER THE INPUT: true; the input reads as it did. -/
def entriesFromSpec : ChangeSpec := { name := "entriesFrom", fn := fun _ => fun
  | [d1, d2, d3] => { results := [.lit (.bool true)], args := [d1, d2, d3] }
  | _ => none }
def entriesFromRow : OpenClaim := { program := "ytdlcjoonhojpfaa", sum := "48651c127e775d662ddd00de5cadf3d72c2d8576ed07f06314e8e6786ebbf0d8", func := "strongroom/strongroomlaw17.EntriesFrom", spec := "entriesFrom", unfollowed := true, recurses := true, apart := false }
def EntriesFromSaid : Prop := entriesFromRow.holds Try.pinned (OpenSpec.ofChange entriesFromSpec)

/-- ITS FALSE NEIGHBOUR: 'it returns false'. Refute it at one input. -/
def entriesFromWrong : ChangeSpec := { name := "entriesFrom", fn := fun _ => fun
  | [d1, d2, d3] => { results := [.lit (.bool false)], args := [d1, d2, d3] }
  | _ => none }
def EntriesFromWrongFalsely : Prop := entriesFromRow.holds Try.pinned (OpenSpec.ofChange entriesFromWrong)

/-- 'strongroomlaw17.EntriesBased': WHATEVER THE INPUT: true; the input reads as it did. -/
def entriesBasedSpec : ChangeSpec := { name := "entriesBased", fn := fun _ => fun
  | [d1, d2, d3] => { results := [.lit (.bool true)], args := [d1, d2, d3] }
  | _ => none }
def entriesBasedRow : OpenClaim := { program := "ytdlcjoonhojpfaa", sum := "48651c127e775d662ddd00de5cadf3d72c2d8576ed07f06314e8e6786ebbf0d8", func := "strongroom/strongroomlaw17.EntriesBased", spec := "entriesBased", unfollowed := true, recurses := true, apart := false }
def EntriesBasedSaid : Prop := entriesBasedRow.holds Try.pinned (OpenSpec.ofChange entriesBasedSpec)

/-- ITS FALSE NEIGHBOUR: 'it returns false'. Refute it at one input. -/
def entriesBasedWrong : ChangeSpec := { name := "entriesBased", fn := fun _ => fun
  | [d1, d2, d3] => { results := [.lit (.bool false)], args := [d1, d2, d3] }
  | _ => none }
def EntriesBasedWrongFalsely : Prop := entriesBasedRow.holds Try.pinned (OpenSpec.ofChange entriesBasedWrong)

/-- 'strongroomlaw13.KeyringStays': WHATEVER THE INPUT: true; the input reads as it did. -/
def keyringStaysSpec : ChangeSpec := { name := "keyringStays", fn := fun _ => fun
  | [d] => { results := [.lit (.bool true)], args := [d] }
  | _ => none }
def keyringStaysRow : OpenClaim := { program := "ytdlcjoonhojpfaa", sum := "48651c127e775d662ddd00de5cadf3d72c2d8576ed07f06314e8e6786ebbf0d8", func := "strongroom/strongroomlaw13.KeyringStays", spec := "keyringStays", apart := false }
def KeyringStaysSaid : Prop := keyringStaysRow.holds Try.pinned (OpenSpec.ofChange keyringStaysSpec)

/-- ITS FALSE NEIGHBOUR: 'it returns false'. Refute it at one input. -/
def keyringStaysWrong : ChangeSpec := { name := "keyringStays", fn := fun _ => fun
  | [d] => { results := [.lit (.bool false)], args := [d] }
  | _ => none }
def KeyringStaysWrongFalsely : Prop := keyringStaysRow.holds Try.pinned (OpenSpec.ofChange keyringStaysWrong)

/-- 'strongroomlaw13.KeyringFull': WHATEVER THE INPUT: true; the input reads as it did. -/
def keyringFullSpec : ChangeSpec := { name := "keyringFull", fn := fun _ => fun
  | [d1, d2, d3] => { results := [.lit (.bool true)], args := [d1, d2, d3] }
  | _ => none }
def keyringFullRow : OpenClaim := { program := "ytdlcjoonhojpfaa", sum := "48651c127e775d662ddd00de5cadf3d72c2d8576ed07f06314e8e6786ebbf0d8", func := "strongroom/strongroomlaw13.KeyringFull", spec := "keyringFull", apart := false }
def KeyringFullSaid : Prop := keyringFullRow.holds Try.pinned (OpenSpec.ofChange keyringFullSpec)

/-- ITS FALSE NEIGHBOUR: 'it returns false'. Refute it at one input. -/
def keyringFullWrong : ChangeSpec := { name := "keyringFull", fn := fun _ => fun
  | [d1, d2, d3] => { results := [.lit (.bool false)], args := [d1, d2, d3] }
  | _ => none }
def KeyringFullWrongFalsely : Prop := keyringFullRow.holds Try.pinned (OpenSpec.ofChange keyringFullWrong)

/-- 'strongroomlaw13.KeyringOff': WHATEVER THE INPUT: true; the input reads as it did. -/
def keyringOffSpec : ChangeSpec := { name := "keyringOff", fn := fun _ => fun
  | [d1, d2] => { results := [.lit (.bool true)], args := [d1, d2] }
  | _ => none }
def keyringOffRow : OpenClaim := { program := "ytdlcjoonhojpfaa", sum := "48651c127e775d662ddd00de5cadf3d72c2d8576ed07f06314e8e6786ebbf0d8", func := "strongroom/strongroomlaw13.KeyringOff", spec := "keyringOff", apart := false }
def KeyringOffSaid : Prop := keyringOffRow.holds Try.pinned (OpenSpec.ofChange keyringOffSpec)

/-- ITS FALSE NEIGHBOUR: 'it returns false'. Refute it at one input. -/
def keyringOffWrong : ChangeSpec := { name := "keyringOff", fn := fun _ => fun
  | [d1, d2] => { results := [.lit (.bool false)], args := [d1, d2] }
  | _ => none }
def KeyringOffWrongFalsely : Prop := keyringOffRow.holds Try.pinned (OpenSpec.ofChange keyringOffWrong)

/-- 'strongroomlaw13.KeyringPlays': WHATEVER THE INPUT: true; the input reads as it did. -/
def keyringPlaysSpec : ChangeSpec := { name := "keyringPlays", fn := fun _ => fun
  | [d] => { results := [.lit (.bool true)], args := [d] }
  | _ => none }
def keyringPlaysRow : OpenClaim := { program := "ytdlcjoonhojpfaa", sum := "48651c127e775d662ddd00de5cadf3d72c2d8576ed07f06314e8e6786ebbf0d8", func := "strongroom/strongroomlaw13.KeyringPlays", spec := "keyringPlays", apart := false }
def KeyringPlaysSaid : Prop := keyringPlaysRow.holds Try.pinned (OpenSpec.ofChange keyringPlaysSpec)

/-- ITS FALSE NEIGHBOUR: 'it returns false'. Refute it at one input. -/
def keyringPlaysWrong : ChangeSpec := { name := "keyringPlays", fn := fun _ => fun
  | [d] => { results := [.lit (.bool false)], args := [d] }
  | _ => none }
def KeyringPlaysWrongFalsely : Prop := keyringPlaysRow.holds Try.pinned (OpenSpec.ofChange keyringPlaysWrong)

/-- 'strongroomlaw17.EntriesPlay': WHATEVER THE INPUT: true; the input reads as it did. -/
def entriesPlaySpec : ChangeSpec := { name := "entriesPlay", fn := fun _ => fun
  | [d1, d2, d3] => { results := [.lit (.bool true)], args := [d1, d2, d3] }
  | _ => none }
def entriesPlayRow : OpenClaim := { program := "ytdlcjoonhojpfaa", sum := "48651c127e775d662ddd00de5cadf3d72c2d8576ed07f06314e8e6786ebbf0d8", func := "strongroom/strongroomlaw17.EntriesPlay", spec := "entriesPlay", unfollowed := true, recurses := true, apart := false }
def EntriesPlaySaid : Prop := entriesPlayRow.holds Try.pinned (OpenSpec.ofChange entriesPlaySpec)

/-- ITS FALSE NEIGHBOUR: 'it returns false'. Refute it at one input. -/
def entriesPlayWrong : ChangeSpec := { name := "entriesPlay", fn := fun _ => fun
  | [d1, d2, d3] => { results := [.lit (.bool false)], args := [d1, d2, d3] }
  | _ => none }
def EntriesPlayWrongFalsely : Prop := entriesPlayRow.holds Try.pinned (OpenSpec.ofChange entriesPlayWrong)

/-- 'strongroomlaw13.KeyringOf': WHATEVER THE INPUT: true; the input reads as it did. -/
def keyringOfSpec : ChangeSpec := { name := "keyringOf", fn := fun _ => fun
  | [d] => { results := [.lit (.bool true)], args := [d] }
  | _ => none }
def keyringOfRow : OpenClaim := { program := "ytdlcjoonhojpfaa", sum := "48651c127e775d662ddd00de5cadf3d72c2d8576ed07f06314e8e6786ebbf0d8", func := "strongroom/strongroomlaw13.KeyringOf", spec := "keyringOf", unfollowed := true, recurses := true, apart := false }
def KeyringOfSaid : Prop := keyringOfRow.holds Try.pinned (OpenSpec.ofChange keyringOfSpec)

/-- ITS FALSE NEIGHBOUR: 'it returns false'. Refute it at one input. -/
def keyringOfWrong : ChangeSpec := { name := "keyringOf", fn := fun _ => fun
  | [d] => { results := [.lit (.bool false)], args := [d] }
  | _ => none }
def KeyringOfWrongFalsely : Prop := keyringOfRow.holds Try.pinned (OpenSpec.ofChange keyringOfWrong)

/- THE SECOND FORM. 'bulk': how many values and letters a reading holds, each counted each time it is reached (what is shared counts as often as it is met; a slice's spare places count too). A statement '..UptoSaid' is the law's where the arguments, and the package variables that the reading takes, are together of bulk at most 1048576: NARROWER than '..Said'. Prove '..Said' where nothing that the law and all that it calls make is longer than what came in: it says more and counts as full. Else prove '..UptoSaid'. A law counts once. -/
mutual
def uptoBulk {H : Type} : DataW H → Nat
  | .lit (.string bytes) => bytes.length + 1
  | .lit _ => 1
  | .nil => 1
  | .ptr d => uptoBulk d + 1
  | .slice elems spare => uptoBulkAll elems + uptoBulkAll spare + 1
  | .agg parts => uptoBulkAll parts + 1
  | .iface _ d => uptoBulk d + 1
  | .map entries => uptoBulkEntries entries + 1
  | .held _ => 1
def uptoBulkAll {H : Type} : List (DataW H) → Nat
  | [] => 0
  | d :: r => uptoBulk d + uptoBulkAll r
def uptoBulkEntries {H : Type} : List (Lit × DataW H) → Nat
  | [] => 0
  | x :: r => uptoBulkEntry x + uptoBulkEntries r
def uptoBulkEntry {H : Type} : Lit × DataW H → Nat
  | (.string bytes, d) => bytes.length + uptoBulk d + 1
  | (_, d) => uptoBulk d + 1
 end
def uptoSmall : (H : Type) → List (DataW H) → Bool := fun _ ds => decide (uptoBulkAll ds ≤ 1048576)
def OpenSpec.upto (s : _root_.Go.ChangeSpec) : _root_.Go.OpenSpec := { _root_.Go.OpenSpec.ofChange s with cond := some uptoSmall }

/-- 'strongroomlaw15.SessionsOnce', WHERE WHAT IT READS IS OF BULK AT MOST 1048576: true; the input reads as it did. -/
def sessionsOnceUptoRow : OpenClaim := { program := "ytdlcjoonhojpfaa", sum := "48651c127e775d662ddd00de5cadf3d72c2d8576ed07f06314e8e6786ebbf0d8", func := "strongroom/strongroomlaw15.SessionsOnce", spec := "sessionsOnce", apart := false, narrowed := true }
def SessionsOnceUptoSaid : Prop := sessionsOnceUptoRow.holds Try.pinned (OpenSpec.upto sessionsOnceSpec)

/-- 'strongroomlaw15.SessionsApart', WHERE WHAT IT READS IS OF BULK AT MOST 1048576: true; the input reads as it did. -/
def sessionsApartUptoRow : OpenClaim := { program := "ytdlcjoonhojpfaa", sum := "48651c127e775d662ddd00de5cadf3d72c2d8576ed07f06314e8e6786ebbf0d8", func := "strongroom/strongroomlaw15.SessionsApart", spec := "sessionsApart", apart := false, narrowed := true }
def SessionsApartUptoSaid : Prop := sessionsApartUptoRow.holds Try.pinned (OpenSpec.upto sessionsApartSpec)

/-- 'strongroomlaw17.EntriesJoined', WHERE WHAT IT READS IS OF BULK AT MOST 1048576: true; the input reads as it did. -/
def entriesJoinedUptoRow : OpenClaim := { program := "ytdlcjoonhojpfaa", sum := "48651c127e775d662ddd00de5cadf3d72c2d8576ed07f06314e8e6786ebbf0d8", func := "strongroom/strongroomlaw17.EntriesJoined", spec := "entriesJoined", unfollowed := true, recurses := true, apart := false, narrowed := true }
def EntriesJoinedUptoSaid : Prop := entriesJoinedUptoRow.holds Try.pinned (OpenSpec.upto entriesJoinedSpec)

/-- 'strongroomlaw17.EntriesBehind', WHERE WHAT IT READS IS OF BULK AT MOST 1048576: true; the input reads as it did. -/
def entriesBehindUptoRow : OpenClaim := { program := "ytdlcjoonhojpfaa", sum := "48651c127e775d662ddd00de5cadf3d72c2d8576ed07f06314e8e6786ebbf0d8", func := "strongroom/strongroomlaw17.EntriesBehind", spec := "entriesBehind", unfollowed := true, recurses := true, apart := false, narrowed := true }
def EntriesBehindUptoSaid : Prop := entriesBehindUptoRow.holds Try.pinned (OpenSpec.upto entriesBehindSpec)

/-- 'strongroomlaw17.EntriesFrom', WHERE WHAT IT READS IS OF BULK AT MOST 1048576: true; the input reads as it did. -/
def entriesFromUptoRow : OpenClaim := { program := "ytdlcjoonhojpfaa", sum := "48651c127e775d662ddd00de5cadf3d72c2d8576ed07f06314e8e6786ebbf0d8", func := "strongroom/strongroomlaw17.EntriesFrom", spec := "entriesFrom", unfollowed := true, recurses := true, apart := false, narrowed := true }
def EntriesFromUptoSaid : Prop := entriesFromUptoRow.holds Try.pinned (OpenSpec.upto entriesFromSpec)

/-- 'strongroomlaw17.EntriesBased', WHERE WHAT IT READS IS OF BULK AT MOST 1048576: true; the input reads as it did. -/
def entriesBasedUptoRow : OpenClaim := { program := "ytdlcjoonhojpfaa", sum := "48651c127e775d662ddd00de5cadf3d72c2d8576ed07f06314e8e6786ebbf0d8", func := "strongroom/strongroomlaw17.EntriesBased", spec := "entriesBased", unfollowed := true, recurses := true, apart := false, narrowed := true }
def EntriesBasedUptoSaid : Prop := entriesBasedUptoRow.holds Try.pinned (OpenSpec.upto entriesBasedSpec)

/-- 'strongroomlaw13.KeyringStays', WHERE WHAT IT READS IS OF BULK AT MOST 1048576: true; the input reads as it did. -/
def keyringStaysUptoRow : OpenClaim := { program := "ytdlcjoonhojpfaa", sum := "48651c127e775d662ddd00de5cadf3d72c2d8576ed07f06314e8e6786ebbf0d8", func := "strongroom/strongroomlaw13.KeyringStays", spec := "keyringStays", apart := false, narrowed := true }
def KeyringStaysUptoSaid : Prop := keyringStaysUptoRow.holds Try.pinned (OpenSpec.upto keyringStaysSpec)

/-- 'strongroomlaw13.KeyringFull', WHERE WHAT IT READS IS OF BULK AT MOST 1048576: true; the input reads as it did. -/
def keyringFullUptoRow : OpenClaim := { program := "ytdlcjoonhojpfaa", sum := "48651c127e775d662ddd00de5cadf3d72c2d8576ed07f06314e8e6786ebbf0d8", func := "strongroom/strongroomlaw13.KeyringFull", spec := "keyringFull", apart := false, narrowed := true }
def KeyringFullUptoSaid : Prop := keyringFullUptoRow.holds Try.pinned (OpenSpec.upto keyringFullSpec)

/-- 'strongroomlaw13.KeyringOff', WHERE WHAT IT READS IS OF BULK AT MOST 1048576: true; the input reads as it did. -/
def keyringOffUptoRow : OpenClaim := { program := "ytdlcjoonhojpfaa", sum := "48651c127e775d662ddd00de5cadf3d72c2d8576ed07f06314e8e6786ebbf0d8", func := "strongroom/strongroomlaw13.KeyringOff", spec := "keyringOff", apart := false, narrowed := true }
def KeyringOffUptoSaid : Prop := keyringOffUptoRow.holds Try.pinned (OpenSpec.upto keyringOffSpec)

/-- 'strongroomlaw13.KeyringPlays', WHERE WHAT IT READS IS OF BULK AT MOST 1048576: true; the input reads as it did. -/
def keyringPlaysUptoRow : OpenClaim := { program := "ytdlcjoonhojpfaa", sum := "48651c127e775d662ddd00de5cadf3d72c2d8576ed07f06314e8e6786ebbf0d8", func := "strongroom/strongroomlaw13.KeyringPlays", spec := "keyringPlays", apart := false, narrowed := true }
def KeyringPlaysUptoSaid : Prop := keyringPlaysUptoRow.holds Try.pinned (OpenSpec.upto keyringPlaysSpec)

/-- 'strongroomlaw17.EntriesPlay', WHERE WHAT IT READS IS OF BULK AT MOST 1048576: true; the input reads as it did. -/
def entriesPlayUptoRow : OpenClaim := { program := "ytdlcjoonhojpfaa", sum := "48651c127e775d662ddd00de5cadf3d72c2d8576ed07f06314e8e6786ebbf0d8", func := "strongroom/strongroomlaw17.EntriesPlay", spec := "entriesPlay", unfollowed := true, recurses := true, apart := false, narrowed := true }
def EntriesPlayUptoSaid : Prop := entriesPlayUptoRow.holds Try.pinned (OpenSpec.upto entriesPlaySpec)

/-- 'strongroomlaw13.KeyringOf', WHERE WHAT IT READS IS OF BULK AT MOST 1048576: true; the input reads as it did. -/
def keyringOfUptoRow : OpenClaim := { program := "ytdlcjoonhojpfaa", sum := "48651c127e775d662ddd00de5cadf3d72c2d8576ed07f06314e8e6786ebbf0d8", func := "strongroom/strongroomlaw13.KeyringOf", spec := "keyringOf", unfollowed := true, recurses := true, apart := false, narrowed := true }
def KeyringOfUptoSaid : Prop := keyringOfUptoRow.holds Try.pinned (OpenSpec.upto keyringOfSpec)

end Rows
end Go.Proofs.Ytdlcjoonhojpfaa
