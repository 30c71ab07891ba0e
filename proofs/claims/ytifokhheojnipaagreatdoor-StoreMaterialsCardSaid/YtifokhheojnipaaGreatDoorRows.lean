/-
  NARROWER THAN 'FOR EVERY INPUT', by the rows' own cells (each row's printed sentence says how): StoreMaterials: laid · HistoryChecks: laid · HistoryTrue: laid · HistoryTurned: laid · HistoryOpen: laid · HistoryOnce: laid · StoreAgain: laid · StoreRefuses: laid · StorePlays: laid · StoreReads: laid · StoreBack: laid.
  DERIVED. THE GIVEN ROWS OF THIS SEAT. 11 by the template 'for every input the law returns true; each argument reads behind the call as it read before'; 0 by the template 'total and deterministic' (their statements: YtifokhheojnipaaGreatDoorTotals.lean).
  GIVEN WITH THE SEED: the statements are not yours to turn. If you find one false, say at which input.
  Laid BY PROGRAM, IN A SANDBOX (cutbox-rows.mjs): the forced cells as the released guide's own fill.sh prints them over the translation 1bf4c6fde5e8deda… (all of the seat's roots in one cut). By AI agents, Wed Nov 11 2026. No macro, syntax, notation, axiom, sorry.
-/
import Derived.Test.YtifokhheojnipaaGreatDoorChecked
import GoSem.Claim
import GoSem.ClaimJoined
import GoSem.ClaimMapViews
import Derived.JoinedTies
import Derived.KernelRfl
namespace Go.Proofs.YtifokhheojnipaaGreatDoor
/- THE CELL 'sum', in the pinned program and in every row, IS THE sha256 OF THE DUMP (.gsa) THAT YtifokhheojnipaaGreatDoorProg.lean LOADS. Nothing in Lean hashes anything: it is a label: what it is worth is what the hold of that sum in a sandbox is worth. -/
noncomputable def Tryz.pinned : Pinned := { name := "ytifokhheojnipaagreatdoor", sum := "1bf4c6fde5e8deda892896405354155d23746fbaab9f01043cb1e2b95273e12c", checked := Tryz.checked }
namespace Rows
def none {H : Type} : Left H := { results := [], args := [] }

/- WHAT THE LISTED PACKAGE-LEVEL VARIABLES READ AS WHEN THE CALL BEGINS. Each datum BY PROGRAM (the guide's laid-datum.mjs) off the statement by which the dump's own 'gosem.cut.vars' lays the variable. In a bare row this is a premise. The card (YtifokhheojnipaaGreatDoorCards.lean) ties it to the program's text. -/
def laid_strongroom_sha_add {H : Type} : DataW H := .agg [.lit (.int .u32 1116352408), .lit (.int .u32 1899447441), .lit (.int .u32 3049323471), .lit (.int .u32 3921009573), .lit (.int .u32 961987163), .lit (.int .u32 1508970993), .lit (.int .u32 2453635748), .lit (.int .u32 2870763221), .lit (.int .u32 3624381080), .lit (.int .u32 310598401), .lit (.int .u32 607225278), .lit (.int .u32 1426881987), .lit (.int .u32 1925078388), .lit (.int .u32 2162078206), .lit (.int .u32 2614888103), .lit (.int .u32 3248222580), .lit (.int .u32 3835390401), .lit (.int .u32 4022224774), .lit (.int .u32 264347078), .lit (.int .u32 604807628), .lit (.int .u32 770255983), .lit (.int .u32 1249150122), .lit (.int .u32 1555081692), .lit (.int .u32 1996064986), .lit (.int .u32 2554220882), .lit (.int .u32 2821834349), .lit (.int .u32 2952996808), .lit (.int .u32 3210313671), .lit (.int .u32 3336571891), .lit (.int .u32 3584528711), .lit (.int .u32 113926993), .lit (.int .u32 338241895), .lit (.int .u32 666307205), .lit (.int .u32 773529912), .lit (.int .u32 1294757372), .lit (.int .u32 1396182291), .lit (.int .u32 1695183700), .lit (.int .u32 1986661051), .lit (.int .u32 2177026350), .lit (.int .u32 2456956037), .lit (.int .u32 2730485921), .lit (.int .u32 2820302411), .lit (.int .u32 3259730800), .lit (.int .u32 3345764771), .lit (.int .u32 3516065817), .lit (.int .u32 3600352804), .lit (.int .u32 4094571909), .lit (.int .u32 275423344), .lit (.int .u32 430227734), .lit (.int .u32 506948616), .lit (.int .u32 659060556), .lit (.int .u32 883997877), .lit (.int .u32 958139571), .lit (.int .u32 1322822218), .lit (.int .u32 1537002063), .lit (.int .u32 1747873779), .lit (.int .u32 1955562222), .lit (.int .u32 2024104815), .lit (.int .u32 2227730452), .lit (.int .u32 2361852424), .lit (.int .u32 2428436474), .lit (.int .u32 2756734187), .lit (.int .u32 3204031479), .lit (.int .u32 3329325298)]

/-- 'strongroomlaw16.StoreMaterials': WHATEVER THE INPUT: true; the input reads as it did. -/
def storeMaterialsSpec : ChangeSpec := { name := "storeMaterials", fn := fun _ => fun
  | [d1, d2] => { results := [.lit (.bool true)], args := [d1, d2] }
  | _ => none }
def storeMaterialsRow : OpenClaim := { program := "ytifokhheojnipaagreatdoor", sum := "1bf4c6fde5e8deda892896405354155d23746fbaab9f01043cb1e2b95273e12c", func := "strongroom/strongroomlaw16.StoreMaterials", spec := "storeMaterials", unfollowed := true, recurses := true, named := ["strongroom/sha.add"], apart := false, laid := [("strongroom/sha.add", laid_strongroom_sha_add)] }
def StoreMaterialsSaid : Prop := storeMaterialsRow.holds Tryz.pinned (OpenSpec.ofChange storeMaterialsSpec)

/-- ITS FALSE NEIGHBOUR: 'it returns false'. Refute it at one input. -/
def storeMaterialsWrong : ChangeSpec := { name := "storeMaterials", fn := fun _ => fun
  | [d1, d2] => { results := [.lit (.bool false)], args := [d1, d2] }
  | _ => none }
def StoreMaterialsWrongFalsely : Prop := storeMaterialsRow.holds Tryz.pinned (OpenSpec.ofChange storeMaterialsWrong)

/-- 'strongroomlaw23.HistoryChecks': WHATEVER THE INPUT: true; the input reads as it did. -/
def historyChecksSpec : ChangeSpec := { name := "historyChecks", fn := fun _ => fun
  | [d1, d2, d3] => { results := [.lit (.bool true)], args := [d1, d2, d3] }
  | _ => none }
def historyChecksRow : OpenClaim := { program := "ytifokhheojnipaagreatdoor", sum := "1bf4c6fde5e8deda892896405354155d23746fbaab9f01043cb1e2b95273e12c", func := "strongroom/strongroomlaw23.HistoryChecks", spec := "historyChecks", unfollowed := true, recurses := true, named := ["strongroom/sha.add"], apart := false, laid := [("strongroom/sha.add", laid_strongroom_sha_add)] }
def HistoryChecksSaid : Prop := historyChecksRow.holds Tryz.pinned (OpenSpec.ofChange historyChecksSpec)

/-- ITS FALSE NEIGHBOUR: 'it returns false'. Refute it at one input. -/
def historyChecksWrong : ChangeSpec := { name := "historyChecks", fn := fun _ => fun
  | [d1, d2, d3] => { results := [.lit (.bool false)], args := [d1, d2, d3] }
  | _ => none }
def HistoryChecksWrongFalsely : Prop := historyChecksRow.holds Tryz.pinned (OpenSpec.ofChange historyChecksWrong)

/-- 'strongroomlaw23.HistoryTrue': WHATEVER THE INPUT: true; the input reads as it did. -/
def historyTrueSpec : ChangeSpec := { name := "historyTrue", fn := fun _ => fun
  | [d1, d2, d3] => { results := [.lit (.bool true)], args := [d1, d2, d3] }
  | _ => none }
def historyTrueRow : OpenClaim := { program := "ytifokhheojnipaagreatdoor", sum := "1bf4c6fde5e8deda892896405354155d23746fbaab9f01043cb1e2b95273e12c", func := "strongroom/strongroomlaw23.HistoryTrue", spec := "historyTrue", unfollowed := true, recurses := true, named := ["strongroom/sha.add"], apart := false, laid := [("strongroom/sha.add", laid_strongroom_sha_add)] }
def HistoryTrueSaid : Prop := historyTrueRow.holds Tryz.pinned (OpenSpec.ofChange historyTrueSpec)

/-- ITS FALSE NEIGHBOUR: 'it returns false'. Refute it at one input. -/
def historyTrueWrong : ChangeSpec := { name := "historyTrue", fn := fun _ => fun
  | [d1, d2, d3] => { results := [.lit (.bool false)], args := [d1, d2, d3] }
  | _ => none }
def HistoryTrueWrongFalsely : Prop := historyTrueRow.holds Tryz.pinned (OpenSpec.ofChange historyTrueWrong)

/-- 'strongroomlaw23.HistoryTurned': WHATEVER THE INPUT: true; the input reads as it did. -/
def historyTurnedSpec : ChangeSpec := { name := "historyTurned", fn := fun _ => fun
  | [d1, d2] => { results := [.lit (.bool true)], args := [d1, d2] }
  | _ => none }
def historyTurnedRow : OpenClaim := { program := "ytifokhheojnipaagreatdoor", sum := "1bf4c6fde5e8deda892896405354155d23746fbaab9f01043cb1e2b95273e12c", func := "strongroom/strongroomlaw23.HistoryTurned", spec := "historyTurned", unfollowed := true, recurses := true, named := ["strongroom/sha.add"], apart := false, laid := [("strongroom/sha.add", laid_strongroom_sha_add)] }
def HistoryTurnedSaid : Prop := historyTurnedRow.holds Tryz.pinned (OpenSpec.ofChange historyTurnedSpec)

/-- ITS FALSE NEIGHBOUR: 'it returns false'. Refute it at one input. -/
def historyTurnedWrong : ChangeSpec := { name := "historyTurned", fn := fun _ => fun
  | [d1, d2] => { results := [.lit (.bool false)], args := [d1, d2] }
  | _ => none }
def HistoryTurnedWrongFalsely : Prop := historyTurnedRow.holds Tryz.pinned (OpenSpec.ofChange historyTurnedWrong)

/-- 'strongroomlaw23.HistoryOpen': WHATEVER THE INPUT: true; the input reads as it did. -/
def historyOpenSpec : ChangeSpec := { name := "historyOpen", fn := fun _ => fun
  | [d1, d2] => { results := [.lit (.bool true)], args := [d1, d2] }
  | _ => none }
def historyOpenRow : OpenClaim := { program := "ytifokhheojnipaagreatdoor", sum := "1bf4c6fde5e8deda892896405354155d23746fbaab9f01043cb1e2b95273e12c", func := "strongroom/strongroomlaw23.HistoryOpen", spec := "historyOpen", unfollowed := true, recurses := true, named := ["strongroom/sha.add"], apart := false, laid := [("strongroom/sha.add", laid_strongroom_sha_add)] }
def HistoryOpenSaid : Prop := historyOpenRow.holds Tryz.pinned (OpenSpec.ofChange historyOpenSpec)

/-- ITS FALSE NEIGHBOUR: 'it returns false'. Refute it at one input. -/
def historyOpenWrong : ChangeSpec := { name := "historyOpen", fn := fun _ => fun
  | [d1, d2] => { results := [.lit (.bool false)], args := [d1, d2] }
  | _ => none }
def HistoryOpenWrongFalsely : Prop := historyOpenRow.holds Tryz.pinned (OpenSpec.ofChange historyOpenWrong)

/-- 'strongroomlaw23.HistoryOnce': WHATEVER THE INPUT: true; the input reads as it did. -/
def historyOnceSpec : ChangeSpec := { name := "historyOnce", fn := fun _ => fun
  | [d1, d2] => { results := [.lit (.bool true)], args := [d1, d2] }
  | _ => none }
def historyOnceRow : OpenClaim := { program := "ytifokhheojnipaagreatdoor", sum := "1bf4c6fde5e8deda892896405354155d23746fbaab9f01043cb1e2b95273e12c", func := "strongroom/strongroomlaw23.HistoryOnce", spec := "historyOnce", unfollowed := true, recurses := true, named := ["strongroom/sha.add"], apart := false, laid := [("strongroom/sha.add", laid_strongroom_sha_add)] }
def HistoryOnceSaid : Prop := historyOnceRow.holds Tryz.pinned (OpenSpec.ofChange historyOnceSpec)

/-- ITS FALSE NEIGHBOUR: 'it returns false'. Refute it at one input. -/
def historyOnceWrong : ChangeSpec := { name := "historyOnce", fn := fun _ => fun
  | [d1, d2] => { results := [.lit (.bool false)], args := [d1, d2] }
  | _ => none }
def HistoryOnceWrongFalsely : Prop := historyOnceRow.holds Tryz.pinned (OpenSpec.ofChange historyOnceWrong)

/-- 'strongroomlaw16.StoreAgain': WHATEVER THE INPUT: true; the input reads as it did. -/
def storeAgainSpec : ChangeSpec := { name := "storeAgain", fn := fun _ => fun
  | [d1, d2] => { results := [.lit (.bool true)], args := [d1, d2] }
  | _ => none }
def storeAgainRow : OpenClaim := { program := "ytifokhheojnipaagreatdoor", sum := "1bf4c6fde5e8deda892896405354155d23746fbaab9f01043cb1e2b95273e12c", func := "strongroom/strongroomlaw16.StoreAgain", spec := "storeAgain", unfollowed := true, recurses := true, named := ["strongroom/sha.add"], apart := false, laid := [("strongroom/sha.add", laid_strongroom_sha_add)] }
def StoreAgainSaid : Prop := storeAgainRow.holds Tryz.pinned (OpenSpec.ofChange storeAgainSpec)

/-- ITS FALSE NEIGHBOUR: 'it returns false'. Refute it at one input. -/
def storeAgainWrong : ChangeSpec := { name := "storeAgain", fn := fun _ => fun
  | [d1, d2] => { results := [.lit (.bool false)], args := [d1, d2] }
  | _ => none }
def StoreAgainWrongFalsely : Prop := storeAgainRow.holds Tryz.pinned (OpenSpec.ofChange storeAgainWrong)

/-- 'strongroomlaw16.StoreRefuses': WHATEVER THE INPUT: true; the input reads as it did. -/
def storeRefusesSpec : ChangeSpec := { name := "storeRefuses", fn := fun _ => fun
  | [d1, d2, d3] => { results := [.lit (.bool true)], args := [d1, d2, d3] }
  | _ => none }
def storeRefusesRow : OpenClaim := { program := "ytifokhheojnipaagreatdoor", sum := "1bf4c6fde5e8deda892896405354155d23746fbaab9f01043cb1e2b95273e12c", func := "strongroom/strongroomlaw16.StoreRefuses", spec := "storeRefuses", unfollowed := true, recurses := true, named := ["strongroom/sha.add"], apart := false, laid := [("strongroom/sha.add", laid_strongroom_sha_add)] }
def StoreRefusesSaid : Prop := storeRefusesRow.holds Tryz.pinned (OpenSpec.ofChange storeRefusesSpec)

/-- ITS FALSE NEIGHBOUR: 'it returns false'. Refute it at one input. -/
def storeRefusesWrong : ChangeSpec := { name := "storeRefuses", fn := fun _ => fun
  | [d1, d2, d3] => { results := [.lit (.bool false)], args := [d1, d2, d3] }
  | _ => none }
def StoreRefusesWrongFalsely : Prop := storeRefusesRow.holds Tryz.pinned (OpenSpec.ofChange storeRefusesWrong)

/-- 'strongroomlaw16.StorePlays': WHATEVER THE INPUT: true; the input reads as it did. -/
def storePlaysSpec : ChangeSpec := { name := "storePlays", fn := fun _ => fun
  | [d1, d2] => { results := [.lit (.bool true)], args := [d1, d2] }
  | _ => none }
def storePlaysRow : OpenClaim := { program := "ytifokhheojnipaagreatdoor", sum := "1bf4c6fde5e8deda892896405354155d23746fbaab9f01043cb1e2b95273e12c", func := "strongroom/strongroomlaw16.StorePlays", spec := "storePlays", inPlace := ["maps.clone"], unfollowed := true, recurses := true, named := ["strongroom/sha.add"], apart := false, laid := [("strongroom/sha.add", laid_strongroom_sha_add)] }
def StorePlaysSaid : Prop := storePlaysRow.holds Tryz.pinned (OpenSpec.ofChange storePlaysSpec)

/-- ITS FALSE NEIGHBOUR: 'it returns false'. Refute it at one input. -/
def storePlaysWrong : ChangeSpec := { name := "storePlays", fn := fun _ => fun
  | [d1, d2] => { results := [.lit (.bool false)], args := [d1, d2] }
  | _ => none }
def StorePlaysWrongFalsely : Prop := storePlaysRow.holds Tryz.pinned (OpenSpec.ofChange storePlaysWrong)

/-- 'strongroomlaw16.StoreReads': WHATEVER THE INPUT: true; the input reads as it did. -/
def storeReadsSpec : ChangeSpec := { name := "storeReads", fn := fun _ => fun
  | [d] => { results := [.lit (.bool true)], args := [d] }
  | _ => none }
def storeReadsRow : OpenClaim := { program := "ytifokhheojnipaagreatdoor", sum := "1bf4c6fde5e8deda892896405354155d23746fbaab9f01043cb1e2b95273e12c", func := "strongroom/strongroomlaw16.StoreReads", spec := "storeReads", unfollowed := true, recurses := true, named := ["strongroom/sha.add"], apart := false, laid := [("strongroom/sha.add", laid_strongroom_sha_add)] }
def StoreReadsSaid : Prop := storeReadsRow.holds Tryz.pinned (OpenSpec.ofChange storeReadsSpec)

/-- ITS FALSE NEIGHBOUR: 'it returns false'. Refute it at one input. -/
def storeReadsWrong : ChangeSpec := { name := "storeReads", fn := fun _ => fun
  | [d] => { results := [.lit (.bool false)], args := [d] }
  | _ => none }
def StoreReadsWrongFalsely : Prop := storeReadsRow.holds Tryz.pinned (OpenSpec.ofChange storeReadsWrong)

/-- 'strongroomlaw16.StoreBack': WHATEVER THE INPUT: true; the input reads as it did. -/
def storeBackSpec : ChangeSpec := { name := "storeBack", fn := fun _ => fun
  | [d1, d2, d3] => { results := [.lit (.bool true)], args := [d1, d2, d3] }
  | _ => none }
def storeBackRow : OpenClaim := { program := "ytifokhheojnipaagreatdoor", sum := "1bf4c6fde5e8deda892896405354155d23746fbaab9f01043cb1e2b95273e12c", func := "strongroom/strongroomlaw16.StoreBack", spec := "storeBack", unfollowed := true, recurses := true, named := ["strongroom/sha.add"], apart := false, laid := [("strongroom/sha.add", laid_strongroom_sha_add)] }
def StoreBackSaid : Prop := storeBackRow.holds Tryz.pinned (OpenSpec.ofChange storeBackSpec)

/-- ITS FALSE NEIGHBOUR: 'it returns false'. Refute it at one input. -/
def storeBackWrong : ChangeSpec := { name := "storeBack", fn := fun _ => fun
  | [d1, d2, d3] => { results := [.lit (.bool false)], args := [d1, d2, d3] }
  | _ => none }
def StoreBackWrongFalsely : Prop := storeBackRow.holds Tryz.pinned (OpenSpec.ofChange storeBackWrong)

/- THE SECOND FORM. 'bulk': how many values and letters a reading holds, each counted each time it is reached (what is shared counts as often as it is met; a slice's spare places count too). A statement '..UptoSaid' is the law's where the arguments, and the package variables that the reading takes, are together of bulk at most 1048576: NARROWER than '..Said'. Prove '..Said' where nothing that the law and all that it calls make is longer than what came in: it says more and counts as full. Else prove '..UptoSaid'. A law counts once. -/
mutual
def uptoBulk {H : Type} : DataW H → Nat
  | .lit (.string bytes) => bytes.length + 1
  | .lit _ => 1
  | .nil => 1
  | .ptr d => uptoBulk d + 1
  | .slice elems spare => uptoBulkAll elems + uptoBulkAll spare + 1
  | .agg parts => uptoBulkAll parts + 1
  | .iface _ d => uptoBulk d + 1
  | .map entries => uptoBulkEntries entries + 1
  | .held _ => 1
def uptoBulkAll {H : Type} : List (DataW H) → Nat
  | [] => 0
  | d :: r => uptoBulk d + uptoBulkAll r
def uptoBulkEntries {H : Type} : List (Lit × DataW H) → Nat
  | [] => 0
  | x :: r => uptoBulkEntry x + uptoBulkEntries r
def uptoBulkEntry {H : Type} : Lit × DataW H → Nat
  | (.string bytes, d) => bytes.length + uptoBulk d + 1
  | (_, d) => uptoBulk d + 1
 end
def uptoSmall : (H : Type) → List (DataW H) → Bool := fun _ ds => decide (uptoBulkAll ds ≤ 1048576)
def OpenSpec.upto (s : _root_.Go.ChangeSpec) : _root_.Go.OpenSpec := { _root_.Go.OpenSpec.ofChange s with cond := some uptoSmall }

/-- 'strongroomlaw16.StoreMaterials', WHERE WHAT IT READS IS OF BULK AT MOST 1048576: true; the input reads as it did. -/
def storeMaterialsUptoRow : OpenClaim := { program := "ytifokhheojnipaagreatdoor", sum := "1bf4c6fde5e8deda892896405354155d23746fbaab9f01043cb1e2b95273e12c", func := "strongroom/strongroomlaw16.StoreMaterials", spec := "storeMaterials", unfollowed := true, recurses := true, named := ["strongroom/sha.add"], apart := false, laid := [("strongroom/sha.add", laid_strongroom_sha_add)], narrowed := true }
def StoreMaterialsUptoSaid : Prop := storeMaterialsUptoRow.holds Tryz.pinned (OpenSpec.upto storeMaterialsSpec)

/-- 'strongroomlaw23.HistoryChecks', WHERE WHAT IT READS IS OF BULK AT MOST 1048576: true; the input reads as it did. -/
def historyChecksUptoRow : OpenClaim := { program := "ytifokhheojnipaagreatdoor", sum := "1bf4c6fde5e8deda892896405354155d23746fbaab9f01043cb1e2b95273e12c", func := "strongroom/strongroomlaw23.HistoryChecks", spec := "historyChecks", unfollowed := true, recurses := true, named := ["strongroom/sha.add"], apart := false, laid := [("strongroom/sha.add", laid_strongroom_sha_add)], narrowed := true }
def HistoryChecksUptoSaid : Prop := historyChecksUptoRow.holds Tryz.pinned (OpenSpec.upto historyChecksSpec)

/-- 'strongroomlaw23.HistoryTrue', WHERE WHAT IT READS IS OF BULK AT MOST 1048576: true; the input reads as it did. -/
def historyTrueUptoRow : OpenClaim := { program := "ytifokhheojnipaagreatdoor", sum := "1bf4c6fde5e8deda892896405354155d23746fbaab9f01043cb1e2b95273e12c", func := "strongroom/strongroomlaw23.HistoryTrue", spec := "historyTrue", unfollowed := true, recurses := true, named := ["strongroom/sha.add"], apart := false, laid := [("strongroom/sha.add", laid_strongroom_sha_add)], narrowed := true }
def HistoryTrueUptoSaid : Prop := historyTrueUptoRow.holds Tryz.pinned (OpenSpec.upto historyTrueSpec)

/-- 'strongroomlaw23.HistoryTurned', WHERE WHAT IT READS IS OF BULK AT MOST 1048576: true; the input reads as it did. -/
def historyTurnedUptoRow : OpenClaim := { program := "ytifokhheojnipaagreatdoor", sum := "1bf4c6fde5e8deda892896405354155d23746fbaab9f01043cb1e2b95273e12c", func := "strongroom/strongroomlaw23.HistoryTurned", spec := "historyTurned", unfollowed := true, recurses := true, named := ["strongroom/sha.add"], apart := false, laid := [("strongroom/sha.add", laid_strongroom_sha_add)], narrowed := true }
def HistoryTurnedUptoSaid : Prop := historyTurnedUptoRow.holds Tryz.pinned (OpenSpec.upto historyTurnedSpec)

/-- 'strongroomlaw23.HistoryOpen', WHERE WHAT IT READS IS OF BULK AT MOST 1048576: true; the input reads as it did. -/
def historyOpenUptoRow : OpenClaim := { program := "ytifokhheojnipaagreatdoor", sum := "1bf4c6fde5e8deda892896405354155d23746fbaab9f01043cb1e2b95273e12c", func := "strongroom/strongroomlaw23.HistoryOpen", spec := "historyOpen", unfollowed := true, recurses := true, named := ["strongroom/sha.add"], apart := false, laid := [("strongroom/sha.add", laid_strongroom_sha_add)], narrowed := true }
def HistoryOpenUptoSaid : Prop := historyOpenUptoRow.holds Tryz.pinned (OpenSpec.upto historyOpenSpec)

/-- 'strongroomlaw23.HistoryOnce', WHERE WHAT IT READS IS OF BULK AT MOST 1048576: true; the input reads as it did. -/
def historyOnceUptoRow : OpenClaim := { program := "ytifokhheojnipaagreatdoor", sum := "1bf4c6fde5e8deda892896405354155d23746fbaab9f01043cb1e2b95273e12c", func := "strongroom/strongroomlaw23.HistoryOnce", spec := "historyOnce", unfollowed := true, recurses := true, named := ["strongroom/sha.add"], apart := false, laid := [("strongroom/sha.add", laid_strongroom_sha_add)], narrowed := true }
def HistoryOnceUptoSaid : Prop := historyOnceUptoRow.holds Tryz.pinned (OpenSpec.upto historyOnceSpec)

/-- 'strongroomlaw16.StoreAgain', WHERE WHAT IT READS IS OF BULK AT MOST 1048576: true; the input reads as it did. -/
def storeAgainUptoRow : OpenClaim := { program := "ytifokhheojnipaagreatdoor", sum := "1bf4c6fde5e8deda892896405354155d23746fbaab9f01043cb1e2b95273e12c", func := "strongroom/strongroomlaw16.StoreAgain", spec := "storeAgain", unfollowed := true, recurses := true, named := ["strongroom/sha.add"], apart := false, laid := [("strongroom/sha.add", laid_strongroom_sha_add)], narrowed := true }
def StoreAgainUptoSaid : Prop := storeAgainUptoRow.holds Tryz.pinned (OpenSpec.upto storeAgainSpec)

/-- 'strongroomlaw16.StoreRefuses', WHERE WHAT IT READS IS OF BULK AT MOST 1048576: true; the input reads as it did. -/
def storeRefusesUptoRow : OpenClaim := { program := "ytifokhheojnipaagreatdoor", sum := "1bf4c6fde5e8deda892896405354155d23746fbaab9f01043cb1e2b95273e12c", func := "strongroom/strongroomlaw16.StoreRefuses", spec := "storeRefuses", unfollowed := true, recurses := true, named := ["strongroom/sha.add"], apart := false, laid := [("strongroom/sha.add", laid_strongroom_sha_add)], narrowed := true }
def StoreRefusesUptoSaid : Prop := storeRefusesUptoRow.holds Tryz.pinned (OpenSpec.upto storeRefusesSpec)

/-- 'strongroomlaw16.StorePlays', WHERE WHAT IT READS IS OF BULK AT MOST 1048576: true; the input reads as it did. -/
def storePlaysUptoRow : OpenClaim := { program := "ytifokhheojnipaagreatdoor", sum := "1bf4c6fde5e8deda892896405354155d23746fbaab9f01043cb1e2b95273e12c", func := "strongroom/strongroomlaw16.StorePlays", spec := "storePlays", inPlace := ["maps.clone"], unfollowed := true, recurses := true, named := ["strongroom/sha.add"], apart := false, laid := [("strongroom/sha.add", laid_strongroom_sha_add)], narrowed := true }
def StorePlaysUptoSaid : Prop := storePlaysUptoRow.holds Tryz.pinned (OpenSpec.upto storePlaysSpec)

/-- 'strongroomlaw16.StoreReads', WHERE WHAT IT READS IS OF BULK AT MOST 1048576: true; the input reads as it did. -/
def storeReadsUptoRow : OpenClaim := { program := "ytifokhheojnipaagreatdoor", sum := "1bf4c6fde5e8deda892896405354155d23746fbaab9f01043cb1e2b95273e12c", func := "strongroom/strongroomlaw16.StoreReads", spec := "storeReads", unfollowed := true, recurses := true, named := ["strongroom/sha.add"], apart := false, laid := [("strongroom/sha.add", laid_strongroom_sha_add)], narrowed := true }
def StoreReadsUptoSaid : Prop := storeReadsUptoRow.holds Tryz.pinned (OpenSpec.upto storeReadsSpec)

/-- 'strongroomlaw16.StoreBack', WHERE WHAT IT READS IS OF BULK AT MOST 1048576: true; the input reads as it did. -/
def storeBackUptoRow : OpenClaim := { program := "ytifokhheojnipaagreatdoor", sum := "1bf4c6fde5e8deda892896405354155d23746fbaab9f01043cb1e2b95273e12c", func := "strongroom/strongroomlaw16.StoreBack", spec := "storeBack", unfollowed := true, recurses := true, named := ["strongroom/sha.add"], apart := false, laid := [("strongroom/sha.add", laid_strongroom_sha_add)], narrowed := true }
def StoreBackUptoSaid : Prop := storeBackUptoRow.holds Tryz.pinned (OpenSpec.upto storeBackSpec)

end Rows
end Go.Proofs.YtifokhheojnipaaGreatDoor
