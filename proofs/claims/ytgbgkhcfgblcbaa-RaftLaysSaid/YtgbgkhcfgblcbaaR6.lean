/- RaftLays: a node alone, behind some proposals: closed values. -/
import Derived.Test.YtgbgkhcfgblcbaaR5
import Derived.Test.YtgbgkhcfgblcbaaR3
set_option linter.unusedVariables false
set_option linter.unusedSimpArgs false
set_option linter.unnecessarySimpa false
namespace Go.GX
open Go.RowKit Go.SL
set_option linter.unusedVariables false
set_option linter.unusedSimpArgs false
set_option maxRecDepth 100000
instance dqT6 : DecidableEq (RDT × Unit) := inferInstance
instance dqT7 : DecidableEq (List (Int × Int × Unit) × RDT × Unit) := inferInstance
instance dqT8 : DecidableEq (Int × Int × List (Int × Int × Unit) × RDT × Unit) := inferInstance
instance dqT2 : DecidableEq (List Int × Int × Int × List (Int × Int × Unit) × RDT × Unit) := inferInstance
instance dqT3 : DecidableEq (SNT × List Int × Int × Int × List (Int × Int × Unit) × RDT × Unit) := inferInstance
instance dqT4 : DecidableEq (Int × SNT × List Int × Int × Int × List (Int × Int × Unit) × RDT × Unit) := inferInstance
instance dqT1 : DecidableEq (LT × Int × SNT × List Int × Int × Int × List (Int × Int × Unit) × RDT × Unit) := inferInstance
instance dqT5 : DecidableEq (Int × Int × LT × Int × SNT × List Int × Int × Int × List (Int × Int × Unit) × RDT × Unit) := inferInstance
instance dqT : DecidableEq RT := inferInstance
instance dqST0 : DecidableEq (Int × List Int × Unit) := inferInstance
instance dqST2 : DecidableEq (Int × Int × Int × List Int × Unit) := inferInstance
instance dqST1 : DecidableEq (Int × Int × Int × Int × List Int × Unit) := inferInstance
instance dqST : DecidableEq STT := inferInstance
def R0 : RT := (1, (0, 0, ()), 0, 0, (0, 0, [], ()), 0, (0, 0, [1], [], ()), [], 0, 1, List.replicate 8 (1, 0, ()), outE, ())
def ELs (i : Nat) : List ET := (1, 0, [], [], ()) :: (List.range i).map fun (j : Nat) => (1, 1, [BitVec.ofInt 8 (j : Int)], [], ())
def PEs (i : Nat) : List (Int × Int × Unit) := [(1, 0, ()), (1, (i : Int) + 1, ()), (1, 0, ()), (1, 0, ()), (1, 0, ()), (1, 0, ()), (1, 0, ()), (1, 0, ())]
def LGs (i : Nat) : LT := (0, 0, ELs i, ())
def Ss (i : Nat) : RT := (1, (1, 1, ()), 3, 1, LGs i, (i : Int) + 1, (0, 0, [1], [], ()), [], 0, 1, PEs i, outE, ())
theorem T14s : F14 (1, ((0, (0, ())), (1, ()))) ((1 :: []), ((0, (0, ([], ([], ())))), ([], ()))) = some ((R0, ()), ()) := by rw [kF14]; kernel_rfl
theorem T15s : (F15 (R0, ()) ()).map (fun r => r.2.1) = some (Ss 0) := by rw [kF15]; kernel_rfl
def stand (i : Nat) : STT := (3, 1, 1, 1, (i : Int) + 1, 1, (i : Int) + 1, [1], ())
noncomputable def chk10 (i : Nat) : Bool := decide (K10 (Ss i, ()) () = some ((stand i, ()), (Ss i, ())))
noncomputable def chk16 (i : Nat) : Bool := decide ((K16 (Ss i, ((0, (1, ((BitVec.ofInt 8 (i : Int) :: []), ([], ())))), ())) ()).map (fun r => r.2.1) = some (Ss (i + 1)))
noncomputable def chk44 (k i : Nat) : Bool := decide (K44 (LGs k, ((i : Int) + 1, ())) () = some ((1, (0, ())), (LGs k, ())))
noncomputable def chk45 (k i : Nat) : Bool := decide (K45 (Ss k, ((i : Int) + 1, ())) () = some (([1], (0, ())), (Ss k, ())))
noncomputable def chk80 (k i : Nat) : Bool := decide (K80 (LGs k, ((i : Int) + 1, (1, ()))) () = some ((0, ()), (((i : Int) + 1, 1, (ELs k).drop (i + 1), ()), ())))
theorem all10 : (List.range 41).all chk10 = true := by kernel_rfl
theorem all16 : (List.range 40).all chk16 = true := by kernel_rfl
theorem all44 : (List.range 41).all (fun k => (List.range (k + 1)).all (chk44 k)) = true := by kernel_rfl
theorem all45 : (List.range 41).all (fun k => (List.range (k + 1)).all (chk45 k)) = true := by kernel_rfl
theorem all80 : (List.range 41).all (fun k => (List.range (k + 1)).all (chk80 k)) = true := by kernel_rfl
end Go.GX
