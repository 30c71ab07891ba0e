/-
  No cell of these rows narrows 'for every input' (looked for: loops, veiled, ifaces, maps, wideKeys, modest, calm, conditions, laid).
  DERIVED. THE GIVEN ROWS OF THIS SEAT. 4 by the template 'for every input the law returns true; each argument reads behind the call as it read before'; 0 by the template 'total and deterministic' (their statements: YtgbgkhcfgblcbaaTotals.lean).
  GIVEN WITH THE SEED: the statements are not yours to turn. If you find one false, say at which input.
  Laid BY PROGRAM, IN A SANDBOX (cutbox-rows.mjs): the forced cells as the released guide's own fill.sh prints them over the translation d69538beda7f36bd… (all of the seat's roots in one cut). By AI agents, Wed Nov 11 2026. No macro, syntax, notation, axiom, sorry.
-/
import Derived.Test.YtgbgkhcfgblcbaaChecked
import GoSem.Claim
import GoSem.ClaimJoined
import GoSem.ClaimMapViews
import Derived.JoinedTies
import Derived.KernelRfl
namespace Go.Proofs.Ytgbgkhcfgblcbaa
/- THE CELL 'sum', in the pinned program and in every row, IS THE sha256 OF THE DUMP (.gsa) THAT YtgbgkhcfgblcbaaProg.lean LOADS. Nothing in Lean hashes anything: it is a label: what it is worth is what the hold of that sum in a sandbox is worth. -/
noncomputable def Try.pinned : Pinned := { name := "ytgbgkhcfgblcbaa", sum := "d69538beda7f36bd93d036af1d6f26b12dea330f0653ae6035d2e64218218e37", checked := Try.checked }
namespace Rows
def none {H : Type} : Left H := { results := [], args := [] }

/-- 'strongroomlaw19.RaftOdd': WHATEVER THE INPUT: true; the input reads as it did. -/
def raftOddSpec : ChangeSpec := { name := "raftOdd", fn := fun _ => fun
  | [d1, d2] => { results := [.lit (.bool true)], args := [d1, d2] }
  | _ => none }
def raftOddRow : OpenClaim := { program := "ytgbgkhcfgblcbaa", sum := "d69538beda7f36bd93d036af1d6f26b12dea330f0653ae6035d2e64218218e37", func := "strongroom/strongroomlaw19.RaftOdd", spec := "raftOdd", unfollowed := true, recurses := true, apart := false }
def RaftOddSaid : Prop := raftOddRow.holds Try.pinned (OpenSpec.ofChange raftOddSpec)

/-- ITS FALSE NEIGHBOUR: 'it returns false'. Refute it at one input. -/
def raftOddWrong : ChangeSpec := { name := "raftOdd", fn := fun _ => fun
  | [d1, d2] => { results := [.lit (.bool false)], args := [d1, d2] }
  | _ => none }
def RaftOddWrongFalsely : Prop := raftOddRow.holds Try.pinned (OpenSpec.ofChange raftOddWrong)

/-- 'strongroomlaw19.RaftVotes': WHATEVER THE INPUT: true; the input reads as it did. -/
def raftVotesSpec : ChangeSpec := { name := "raftVotes", fn := fun _ => fun
  | [d1, d2] => { results := [.lit (.bool true)], args := [d1, d2] }
  | _ => none }
def raftVotesRow : OpenClaim := { program := "ytgbgkhcfgblcbaa", sum := "d69538beda7f36bd93d036af1d6f26b12dea330f0653ae6035d2e64218218e37", func := "strongroom/strongroomlaw19.RaftVotes", spec := "raftVotes", unfollowed := true, recurses := true, apart := false }
def RaftVotesSaid : Prop := raftVotesRow.holds Try.pinned (OpenSpec.ofChange raftVotesSpec)

/-- ITS FALSE NEIGHBOUR: 'it returns false'. Refute it at one input. -/
def raftVotesWrong : ChangeSpec := { name := "raftVotes", fn := fun _ => fun
  | [d1, d2] => { results := [.lit (.bool false)], args := [d1, d2] }
  | _ => none }
def RaftVotesWrongFalsely : Prop := raftVotesRow.holds Try.pinned (OpenSpec.ofChange raftVotesWrong)

/-- 'strongroomlaw19.RaftLate': WHATEVER THE INPUT: true; the input reads as it did. -/
def raftLateSpec : ChangeSpec := { name := "raftLate", fn := fun _ => fun
  | [d1, d2] => { results := [.lit (.bool true)], args := [d1, d2] }
  | _ => none }
def raftLateRow : OpenClaim := { program := "ytgbgkhcfgblcbaa", sum := "d69538beda7f36bd93d036af1d6f26b12dea330f0653ae6035d2e64218218e37", func := "strongroom/strongroomlaw19.RaftLate", spec := "raftLate", unfollowed := true, recurses := true, apart := false }
def RaftLateSaid : Prop := raftLateRow.holds Try.pinned (OpenSpec.ofChange raftLateSpec)

/-- ITS FALSE NEIGHBOUR: 'it returns false'. Refute it at one input. -/
def raftLateWrong : ChangeSpec := { name := "raftLate", fn := fun _ => fun
  | [d1, d2] => { results := [.lit (.bool false)], args := [d1, d2] }
  | _ => none }
def RaftLateWrongFalsely : Prop := raftLateRow.holds Try.pinned (OpenSpec.ofChange raftLateWrong)

/-- 'strongroomlaw19.RaftLays': WHATEVER THE INPUT: true; the input reads as it did. -/
def raftLaysSpec : ChangeSpec := { name := "raftLays", fn := fun _ => fun
  | [d1, d2, d3] => { results := [.lit (.bool true)], args := [d1, d2, d3] }
  | _ => none }
def raftLaysRow : OpenClaim := { program := "ytgbgkhcfgblcbaa", sum := "d69538beda7f36bd93d036af1d6f26b12dea330f0653ae6035d2e64218218e37", func := "strongroom/strongroomlaw19.RaftLays", spec := "raftLays", inPlace := ["slices.overlaps[int]"], unfollowed := true, recurses := true, apart := false }
def RaftLaysSaid : Prop := raftLaysRow.holds Try.pinned (OpenSpec.ofChange raftLaysSpec)

/-- ITS FALSE NEIGHBOUR: 'it returns false'. Refute it at one input. -/
def raftLaysWrong : ChangeSpec := { name := "raftLays", fn := fun _ => fun
  | [d1, d2, d3] => { results := [.lit (.bool false)], args := [d1, d2, d3] }
  | _ => none }
def RaftLaysWrongFalsely : Prop := raftLaysRow.holds Try.pinned (OpenSpec.ofChange raftLaysWrong)

/- THE SECOND FORM. 'bulk': how many values and letters a reading holds, each counted each time it is reached (what is shared counts as often as it is met; a slice's spare places count too). A statement '..UptoSaid' is the law's where the arguments, and the package variables that the reading takes, are together of bulk at most 1048576: NARROWER than '..Said'. Prove '..Said' where nothing that the law and all that it calls make is longer than what came in: it says more and counts as full. Else prove '..UptoSaid'. A law counts once. -/
mutual
def uptoBulk {H : Type} : DataW H → Nat
  | .lit (.string bytes) => bytes.length + 1
  | .lit _ => 1
  | .nil => 1
  | .ptr d => uptoBulk d + 1
  | .slice elems spare => uptoBulkAll elems + uptoBulkAll spare + 1
  | .agg parts => uptoBulkAll parts + 1
  | .iface _ d => uptoBulk d + 1
  | .map entries => uptoBulkEntries entries + 1
  | .held _ => 1
def uptoBulkAll {H : Type} : List (DataW H) → Nat
  | [] => 0
  | d :: r => uptoBulk d + uptoBulkAll r
def uptoBulkEntries {H : Type} : List (Lit × DataW H) → Nat
  | [] => 0
  | x :: r => uptoBulkEntry x + uptoBulkEntries r
def uptoBulkEntry {H : Type} : Lit × DataW H → Nat
  | (.string bytes, d) => bytes.length + uptoBulk d + 1
  | (_, d) => uptoBulk d + 1
 end
def uptoSmall : (H : Type) → List (DataW H) → Bool := fun _ ds => decide (uptoBulkAll ds ≤ 1048576)
def OpenSpec.upto (s : _root_.Go.ChangeSpec) : _root_.Go.OpenSpec := { _root_.Go.OpenSpec.ofChange s with cond := some uptoSmall }

/-- 'strongroomlaw19.RaftOdd', WHERE WHAT IT READS IS OF BULK AT MOST 1048576: true; the input reads as it did. -/
def raftOddUptoRow : OpenClaim := { program := "ytgbgkhcfgblcbaa", sum := "d69538beda7f36bd93d036af1d6f26b12dea330f0653ae6035d2e64218218e37", func := "strongroom/strongroomlaw19.RaftOdd", spec := "raftOdd", unfollowed := true, recurses := true, apart := false, narrowed := true }
def RaftOddUptoSaid : Prop := raftOddUptoRow.holds Try.pinned (OpenSpec.upto raftOddSpec)

/-- 'strongroomlaw19.RaftVotes', WHERE WHAT IT READS IS OF BULK AT MOST 1048576: true; the input reads as it did. -/
def raftVotesUptoRow : OpenClaim := { program := "ytgbgkhcfgblcbaa", sum := "d69538beda7f36bd93d036af1d6f26b12dea330f0653ae6035d2e64218218e37", func := "strongroom/strongroomlaw19.RaftVotes", spec := "raftVotes", unfollowed := true, recurses := true, apart := false, narrowed := true }
def RaftVotesUptoSaid : Prop := raftVotesUptoRow.holds Try.pinned (OpenSpec.upto raftVotesSpec)

/-- 'strongroomlaw19.RaftLate', WHERE WHAT IT READS IS OF BULK AT MOST 1048576: true; the input reads as it did. -/
def raftLateUptoRow : OpenClaim := { program := "ytgbgkhcfgblcbaa", sum := "d69538beda7f36bd93d036af1d6f26b12dea330f0653ae6035d2e64218218e37", func := "strongroom/strongroomlaw19.RaftLate", spec := "raftLate", unfollowed := true, recurses := true, apart := false, narrowed := true }
def RaftLateUptoSaid : Prop := raftLateUptoRow.holds Try.pinned (OpenSpec.upto raftLateSpec)

/-- 'strongroomlaw19.RaftLays', WHERE WHAT IT READS IS OF BULK AT MOST 1048576: true; the input reads as it did. -/
def raftLaysUptoRow : OpenClaim := { program := "ytgbgkhcfgblcbaa", sum := "d69538beda7f36bd93d036af1d6f26b12dea330f0653ae6035d2e64218218e37", func := "strongroom/strongroomlaw19.RaftLays", spec := "raftLays", inPlace := ["slices.overlaps[int]"], unfollowed := true, recurses := true, apart := false, narrowed := true }
def RaftLaysUptoSaid : Prop := raftLaysUptoRow.holds Try.pinned (OpenSpec.upto raftLaysSpec)

end Rows
end Go.Proofs.Ytgbgkhcfgblcbaa
