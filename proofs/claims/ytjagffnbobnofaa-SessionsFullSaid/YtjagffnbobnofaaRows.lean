/-
  No cell of these rows narrows 'for every input' (looked for: loops, veiled, ifaces, maps, wideKeys, modest, calm, conditions, laid).
  DERIVED. THE GIVEN ROWS OF THIS SEAT. 9 by the template 'for every input the law returns true; each argument reads behind the call as it read before'; 0 by the template 'total and deterministic' (their statements: YtjagffnbobnofaaTotals.lean).
  GIVEN WITH THE SEED: the statements are not yours to turn. If you find one false, say at which input.
  Laid BY PROGRAM, IN A SANDBOX (cutbox-rows.mjs): the forced cells as the released guide's own fill.sh prints them over the translation 7129dde2bd74de99… (all of the seat's roots in one cut). By AI agents, Wed Nov 11 2026. No macro, syntax, notation, axiom, sorry.
-/
import Derived.Test.YtjagffnbobnofaaChecked
import GoSem.Claim
import GoSem.ClaimJoined
import GoSem.ClaimMapViews
import Derived.JoinedTies
import Derived.KernelRfl
namespace Go.Proofs.Ytjagffnbobnofaa
/- THE CELL 'sum', in the pinned program and in every row, IS THE sha256 OF THE DUMP (.gsa) THAT YtjagffnbobnofaaProg.lean LOADS. Nothing in Lean hashes anything: it is a label: what it is worth is what the hold of that sum in a sandbox is worth. -/
noncomputable def Try.pinned : Pinned := { name := "ytjagffnbobnofaa", sum := "7129dde2bd74de99e7d229d08818b21e01d5a7de2d01f3d98b9204c01011ddb2", checked := Try.checked }
namespace Rows
def none {H : Type} : Left H := { results := [], args := [] }

/-- 'strongroomlaw15.SessionsFull': WHATEVER THE INPUT: true; the input reads as it did. -/
def sessionsFullSpec : ChangeSpec := { name := "sessionsFull", fn := fun _ => fun
  | [d1, d2] => { results := [.lit (.bool true)], args := [d1, d2] }
  | _ => none }
def sessionsFullRow : OpenClaim := { program := "ytjagffnbobnofaa", sum := "7129dde2bd74de99e7d229d08818b21e01d5a7de2d01f3d98b9204c01011ddb2", func := "strongroom/strongroomlaw15.SessionsFull", spec := "sessionsFull", unfollowed := true, recurses := true, apart := false }
def SessionsFullSaid : Prop := sessionsFullRow.holds Try.pinned (OpenSpec.ofChange sessionsFullSpec)

/-- ITS FALSE NEIGHBOUR: 'it returns false'. Refute it at one input. -/
def sessionsFullWrong : ChangeSpec := { name := "sessionsFull", fn := fun _ => fun
  | [d1, d2] => { results := [.lit (.bool false)], args := [d1, d2] }
  | _ => none }
def SessionsFullWrongFalsely : Prop := sessionsFullRow.holds Try.pinned (OpenSpec.ofChange sessionsFullWrong)

/-- 'strongroomlaw15.SessionsPlay': WHATEVER THE INPUT: true; the input reads as it did. -/
def sessionsPlaySpec : ChangeSpec := { name := "sessionsPlay", fn := fun _ => fun
  | [d] => { results := [.lit (.bool true)], args := [d] }
  | _ => none }
def sessionsPlayRow : OpenClaim := { program := "ytjagffnbobnofaa", sum := "7129dde2bd74de99e7d229d08818b21e01d5a7de2d01f3d98b9204c01011ddb2", func := "strongroom/strongroomlaw15.SessionsPlay", spec := "sessionsPlay", inPlace := ["maps.clone"], unfollowed := true, recurses := true, apart := false }
def SessionsPlaySaid : Prop := sessionsPlayRow.holds Try.pinned (OpenSpec.ofChange sessionsPlaySpec)

/-- ITS FALSE NEIGHBOUR: 'it returns false'. Refute it at one input. -/
def sessionsPlayWrong : ChangeSpec := { name := "sessionsPlay", fn := fun _ => fun
  | [d] => { results := [.lit (.bool false)], args := [d] }
  | _ => none }
def SessionsPlayWrongFalsely : Prop := sessionsPlayRow.holds Try.pinned (OpenSpec.ofChange sessionsPlayWrong)

/-- 'strongroomlaw15.SessionsOf': WHATEVER THE INPUT: true; the input reads as it did. -/
def sessionsOfSpec : ChangeSpec := { name := "sessionsOf", fn := fun _ => fun
  | [d1, d2] => { results := [.lit (.bool true)], args := [d1, d2] }
  | _ => none }
def sessionsOfRow : OpenClaim := { program := "ytjagffnbobnofaa", sum := "7129dde2bd74de99e7d229d08818b21e01d5a7de2d01f3d98b9204c01011ddb2", func := "strongroom/strongroomlaw15.SessionsOf", spec := "sessionsOf", unfollowed := true, recurses := true, apart := false }
def SessionsOfSaid : Prop := sessionsOfRow.holds Try.pinned (OpenSpec.ofChange sessionsOfSpec)

/-- ITS FALSE NEIGHBOUR: 'it returns false'. Refute it at one input. -/
def sessionsOfWrong : ChangeSpec := { name := "sessionsOf", fn := fun _ => fun
  | [d1, d2] => { results := [.lit (.bool false)], args := [d1, d2] }
  | _ => none }
def SessionsOfWrongFalsely : Prop := sessionsOfRow.holds Try.pinned (OpenSpec.ofChange sessionsOfWrong)

/-- 'strongroomlaw18.QuorumChecks': WHATEVER THE INPUT: true; the input reads as it did. -/
def quorumChecksSpec : ChangeSpec := { name := "quorumChecks", fn := fun _ => fun
  | [d1, d2] => { results := [.lit (.bool true)], args := [d1, d2] }
  | _ => none }
def quorumChecksRow : OpenClaim := { program := "ytjagffnbobnofaa", sum := "7129dde2bd74de99e7d229d08818b21e01d5a7de2d01f3d98b9204c01011ddb2", func := "strongroom/strongroomlaw18.QuorumChecks", spec := "quorumChecks", inPlace := ["slices.overlaps[int]"], unfollowed := true, recurses := true, apart := false }
def QuorumChecksSaid : Prop := quorumChecksRow.holds Try.pinned (OpenSpec.ofChange quorumChecksSpec)

/-- ITS FALSE NEIGHBOUR: 'it returns false'. Refute it at one input. -/
def quorumChecksWrong : ChangeSpec := { name := "quorumChecks", fn := fun _ => fun
  | [d1, d2] => { results := [.lit (.bool false)], args := [d1, d2] }
  | _ => none }
def QuorumChecksWrongFalsely : Prop := quorumChecksRow.holds Try.pinned (OpenSpec.ofChange quorumChecksWrong)

/-- 'strongroomlaw18.QuorumCounts': WHATEVER THE INPUT: true; the input reads as it did. -/
def quorumCountsSpec : ChangeSpec := { name := "quorumCounts", fn := fun _ => fun
  | [d1, d2, d3] => { results := [.lit (.bool true)], args := [d1, d2, d3] }
  | _ => none }
def quorumCountsRow : OpenClaim := { program := "ytjagffnbobnofaa", sum := "7129dde2bd74de99e7d229d08818b21e01d5a7de2d01f3d98b9204c01011ddb2", func := "strongroom/strongroomlaw18.QuorumCounts", spec := "quorumCounts", inPlace := ["slices.overlaps[int]"], unfollowed := true, recurses := true, apart := false }
def QuorumCountsSaid : Prop := quorumCountsRow.holds Try.pinned (OpenSpec.ofChange quorumCountsSpec)

/-- ITS FALSE NEIGHBOUR: 'it returns false'. Refute it at one input. -/
def quorumCountsWrong : ChangeSpec := { name := "quorumCounts", fn := fun _ => fun
  | [d1, d2, d3] => { results := [.lit (.bool false)], args := [d1, d2, d3] }
  | _ => none }
def QuorumCountsWrongFalsely : Prop := quorumCountsRow.holds Try.pinned (OpenSpec.ofChange quorumCountsWrong)

/-- 'strongroomlaw18.QuorumMeets': WHATEVER THE INPUT: true; the input reads as it did. -/
def quorumMeetsSpec : ChangeSpec := { name := "quorumMeets", fn := fun _ => fun
  | [d1, d2, d3] => { results := [.lit (.bool true)], args := [d1, d2, d3] }
  | _ => none }
def quorumMeetsRow : OpenClaim := { program := "ytjagffnbobnofaa", sum := "7129dde2bd74de99e7d229d08818b21e01d5a7de2d01f3d98b9204c01011ddb2", func := "strongroom/strongroomlaw18.QuorumMeets", spec := "quorumMeets", inPlace := ["slices.overlaps[int]"], unfollowed := true, recurses := true, apart := false }
def QuorumMeetsSaid : Prop := quorumMeetsRow.holds Try.pinned (OpenSpec.ofChange quorumMeetsSpec)

/-- ITS FALSE NEIGHBOUR: 'it returns false'. Refute it at one input. -/
def quorumMeetsWrong : ChangeSpec := { name := "quorumMeets", fn := fun _ => fun
  | [d1, d2, d3] => { results := [.lit (.bool false)], args := [d1, d2, d3] }
  | _ => none }
def QuorumMeetsWrongFalsely : Prop := quorumMeetsRow.holds Try.pinned (OpenSpec.ofChange quorumMeetsWrong)

/-- 'strongroomlaw18.QuorumBack': WHATEVER THE INPUT: true; the input reads as it did. -/
def quorumBackSpec : ChangeSpec := { name := "quorumBack", fn := fun _ => fun
  | [d1, d2] => { results := [.lit (.bool true)], args := [d1, d2] }
  | _ => none }
def quorumBackRow : OpenClaim := { program := "ytjagffnbobnofaa", sum := "7129dde2bd74de99e7d229d08818b21e01d5a7de2d01f3d98b9204c01011ddb2", func := "strongroom/strongroomlaw18.QuorumBack", spec := "quorumBack", inPlace := ["slices.overlaps[int]"], unfollowed := true, recurses := true, apart := false }
def QuorumBackSaid : Prop := quorumBackRow.holds Try.pinned (OpenSpec.ofChange quorumBackSpec)

/-- ITS FALSE NEIGHBOUR: 'it returns false'. Refute it at one input. -/
def quorumBackWrong : ChangeSpec := { name := "quorumBack", fn := fun _ => fun
  | [d1, d2] => { results := [.lit (.bool false)], args := [d1, d2] }
  | _ => none }
def QuorumBackWrongFalsely : Prop := quorumBackRow.holds Try.pinned (OpenSpec.ofChange quorumBackWrong)

/-- 'strongroomlaw18.QuorumRises': WHATEVER THE INPUT: true; the input reads as it did. -/
def quorumRisesSpec : ChangeSpec := { name := "quorumRises", fn := fun _ => fun
  | [d1, d2, d3] => { results := [.lit (.bool true)], args := [d1, d2, d3] }
  | _ => none }
def quorumRisesRow : OpenClaim := { program := "ytjagffnbobnofaa", sum := "7129dde2bd74de99e7d229d08818b21e01d5a7de2d01f3d98b9204c01011ddb2", func := "strongroom/strongroomlaw18.QuorumRises", spec := "quorumRises", inPlace := ["slices.overlaps[int]"], unfollowed := true, recurses := true, apart := false }
def QuorumRisesSaid : Prop := quorumRisesRow.holds Try.pinned (OpenSpec.ofChange quorumRisesSpec)

/-- ITS FALSE NEIGHBOUR: 'it returns false'. Refute it at one input. -/
def quorumRisesWrong : ChangeSpec := { name := "quorumRises", fn := fun _ => fun
  | [d1, d2, d3] => { results := [.lit (.bool false)], args := [d1, d2, d3] }
  | _ => none }
def QuorumRisesWrongFalsely : Prop := quorumRisesRow.holds Try.pinned (OpenSpec.ofChange quorumRisesWrong)

/-- 'strongroomlaw18.QuorumAll': WHATEVER THE INPUT: true; the input reads as it did. -/
def quorumAllSpec : ChangeSpec := { name := "quorumAll", fn := fun _ => fun
  | [d1, d2] => { results := [.lit (.bool true)], args := [d1, d2] }
  | _ => none }
def quorumAllRow : OpenClaim := { program := "ytjagffnbobnofaa", sum := "7129dde2bd74de99e7d229d08818b21e01d5a7de2d01f3d98b9204c01011ddb2", func := "strongroom/strongroomlaw18.QuorumAll", spec := "quorumAll", inPlace := ["slices.overlaps[int]"], unfollowed := true, recurses := true, apart := false }
def QuorumAllSaid : Prop := quorumAllRow.holds Try.pinned (OpenSpec.ofChange quorumAllSpec)

/-- ITS FALSE NEIGHBOUR: 'it returns false'. Refute it at one input. -/
def quorumAllWrong : ChangeSpec := { name := "quorumAll", fn := fun _ => fun
  | [d1, d2] => { results := [.lit (.bool false)], args := [d1, d2] }
  | _ => none }
def QuorumAllWrongFalsely : Prop := quorumAllRow.holds Try.pinned (OpenSpec.ofChange quorumAllWrong)

/- THE SECOND FORM. 'bulk': how many values and letters a reading holds, each counted each time it is reached (what is shared counts as often as it is met; a slice's spare places count too). A statement '..UptoSaid' is the law's where the arguments, and the package variables that the reading takes, are together of bulk at most 1048576: NARROWER than '..Said'. Prove '..Said' where nothing that the law and all that it calls make is longer than what came in: it says more and counts as full. Else prove '..UptoSaid'. A law counts once. -/
mutual
def uptoBulk {H : Type} : DataW H → Nat
  | .lit (.string bytes) => bytes.length + 1
  | .lit _ => 1
  | .nil => 1
  | .ptr d => uptoBulk d + 1
  | .slice elems spare => uptoBulkAll elems + uptoBulkAll spare + 1
  | .agg parts => uptoBulkAll parts + 1
  | .iface _ d => uptoBulk d + 1
  | .map entries => uptoBulkEntries entries + 1
  | .held _ => 1
def uptoBulkAll {H : Type} : List (DataW H) → Nat
  | [] => 0
  | d :: r => uptoBulk d + uptoBulkAll r
def uptoBulkEntries {H : Type} : List (Lit × DataW H) → Nat
  | [] => 0
  | x :: r => uptoBulkEntry x + uptoBulkEntries r
def uptoBulkEntry {H : Type} : Lit × DataW H → Nat
  | (.string bytes, d) => bytes.length + uptoBulk d + 1
  | (_, d) => uptoBulk d + 1
 end
def uptoSmall : (H : Type) → List (DataW H) → Bool := fun _ ds => decide (uptoBulkAll ds ≤ 1048576)
def OpenSpec.upto (s : _root_.Go.ChangeSpec) : _root_.Go.OpenSpec := { _root_.Go.OpenSpec.ofChange s with cond := some uptoSmall }

/-- 'strongroomlaw15.SessionsFull', WHERE WHAT IT READS IS OF BULK AT MOST 1048576: true; the input reads as it did. -/
def sessionsFullUptoRow : OpenClaim := { program := "ytjagffnbobnofaa", sum := "7129dde2bd74de99e7d229d08818b21e01d5a7de2d01f3d98b9204c01011ddb2", func := "strongroom/strongroomlaw15.SessionsFull", spec := "sessionsFull", unfollowed := true, recurses := true, apart := false, narrowed := true }
def SessionsFullUptoSaid : Prop := sessionsFullUptoRow.holds Try.pinned (OpenSpec.upto sessionsFullSpec)

/-- 'strongroomlaw15.SessionsPlay', WHERE WHAT IT READS IS OF BULK AT MOST 1048576: true; the input reads as it did. -/
def sessionsPlayUptoRow : OpenClaim := { program := "ytjagffnbobnofaa", sum := "7129dde2bd74de99e7d229d08818b21e01d5a7de2d01f3d98b9204c01011ddb2", func := "strongroom/strongroomlaw15.SessionsPlay", spec := "sessionsPlay", inPlace := ["maps.clone"], unfollowed := true, recurses := true, apart := false, narrowed := true }
def SessionsPlayUptoSaid : Prop := sessionsPlayUptoRow.holds Try.pinned (OpenSpec.upto sessionsPlaySpec)

/-- 'strongroomlaw15.SessionsOf', WHERE WHAT IT READS IS OF BULK AT MOST 1048576: true; the input reads as it did. -/
def sessionsOfUptoRow : OpenClaim := { program := "ytjagffnbobnofaa", sum := "7129dde2bd74de99e7d229d08818b21e01d5a7de2d01f3d98b9204c01011ddb2", func := "strongroom/strongroomlaw15.SessionsOf", spec := "sessionsOf", unfollowed := true, recurses := true, apart := false, narrowed := true }
def SessionsOfUptoSaid : Prop := sessionsOfUptoRow.holds Try.pinned (OpenSpec.upto sessionsOfSpec)

/-- 'strongroomlaw18.QuorumChecks', WHERE WHAT IT READS IS OF BULK AT MOST 1048576: true; the input reads as it did. -/
def quorumChecksUptoRow : OpenClaim := { program := "ytjagffnbobnofaa", sum := "7129dde2bd74de99e7d229d08818b21e01d5a7de2d01f3d98b9204c01011ddb2", func := "strongroom/strongroomlaw18.QuorumChecks", spec := "quorumChecks", inPlace := ["slices.overlaps[int]"], unfollowed := true, recurses := true, apart := false, narrowed := true }
def QuorumChecksUptoSaid : Prop := quorumChecksUptoRow.holds Try.pinned (OpenSpec.upto quorumChecksSpec)

/-- 'strongroomlaw18.QuorumCounts', WHERE WHAT IT READS IS OF BULK AT MOST 1048576: true; the input reads as it did. -/
def quorumCountsUptoRow : OpenClaim := { program := "ytjagffnbobnofaa", sum := "7129dde2bd74de99e7d229d08818b21e01d5a7de2d01f3d98b9204c01011ddb2", func := "strongroom/strongroomlaw18.QuorumCounts", spec := "quorumCounts", inPlace := ["slices.overlaps[int]"], unfollowed := true, recurses := true, apart := false, narrowed := true }
def QuorumCountsUptoSaid : Prop := quorumCountsUptoRow.holds Try.pinned (OpenSpec.upto quorumCountsSpec)

/-- 'strongroomlaw18.QuorumMeets', WHERE WHAT IT READS IS OF BULK AT MOST 1048576: true; the input reads as it did. -/
def quorumMeetsUptoRow : OpenClaim := { program := "ytjagffnbobnofaa", sum := "7129dde2bd74de99e7d229d08818b21e01d5a7de2d01f3d98b9204c01011ddb2", func := "strongroom/strongroomlaw18.QuorumMeets", spec := "quorumMeets", inPlace := ["slices.overlaps[int]"], unfollowed := true, recurses := true, apart := false, narrowed := true }
def QuorumMeetsUptoSaid : Prop := quorumMeetsUptoRow.holds Try.pinned (OpenSpec.upto quorumMeetsSpec)

/-- 'strongroomlaw18.QuorumBack', WHERE WHAT IT READS IS OF BULK AT MOST 1048576: true; the input reads as it did. -/
def quorumBackUptoRow : OpenClaim := { program := "ytjagffnbobnofaa", sum := "7129dde2bd74de99e7d229d08818b21e01d5a7de2d01f3d98b9204c01011ddb2", func := "strongroom/strongroomlaw18.QuorumBack", spec := "quorumBack", inPlace := ["slices.overlaps[int]"], unfollowed := true, recurses := true, apart := false, narrowed := true }
def QuorumBackUptoSaid : Prop := quorumBackUptoRow.holds Try.pinned (OpenSpec.upto quorumBackSpec)

/-- 'strongroomlaw18.QuorumRises', WHERE WHAT IT READS IS OF BULK AT MOST 1048576: true; the input reads as it did. -/
def quorumRisesUptoRow : OpenClaim := { program := "ytjagffnbobnofaa", sum := "7129dde2bd74de99e7d229d08818b21e01d5a7de2d01f3d98b9204c01011ddb2", func := "strongroom/strongroomlaw18.QuorumRises", spec := "quorumRises", inPlace := ["slices.overlaps[int]"], unfollowed := true, recurses := true, apart := false, narrowed := true }
def QuorumRisesUptoSaid : Prop := quorumRisesUptoRow.holds Try.pinned (OpenSpec.upto quorumRisesSpec)

/-- 'strongroomlaw18.QuorumAll', WHERE WHAT IT READS IS OF BULK AT MOST 1048576: true; the input reads as it did. -/
def quorumAllUptoRow : OpenClaim := { program := "ytjagffnbobnofaa", sum := "7129dde2bd74de99e7d229d08818b21e01d5a7de2d01f3d98b9204c01011ddb2", func := "strongroom/strongroomlaw18.QuorumAll", spec := "quorumAll", inPlace := ["slices.overlaps[int]"], unfollowed := true, recurses := true, apart := false, narrowed := true }
def QuorumAllUptoSaid : Prop := quorumAllUptoRow.holds Try.pinned (OpenSpec.upto quorumAllSpec)

end Rows
end Go.Proofs.Ytjagffnbobnofaa
