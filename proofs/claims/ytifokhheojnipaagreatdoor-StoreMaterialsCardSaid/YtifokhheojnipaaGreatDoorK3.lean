/- The plain functions in words that compute; closed values. -/
import Derived.Test.YtifokhheojnipaaGreatDoorK1
import Derived.Test.YtifokhheojnipaaGreatDoorZ1
import Derived.KernelRfl
set_option linter.unusedVariables false
set_option linter.unusedSimpArgs false
set_option linter.unnecessarySimpa false
namespace Go.GX
open Go.RowKit Go.SL
set_option linter.unusedVariables false
set_option linter.unusedSimpArgs false
set_option maxRecDepth 100000
set_option maxHeartbeats 4000000
noncomputable def K169 (x0 : (Int) × Unit) (x1 : Unit) : Option (((List (BitVec 64)) × Unit) × Unit) :=
 kiter (fun (v2 : ((BitVec 64) × (List (BitVec 64)) × Unit) × Unit) => fun r3 => kbr (decide ((Nat.cast (List.length v2.1.2.1) : Int) < x0.1))
 (kiter (fun (v4 : ((Int) × (Bool) × Unit) × Unit) => fun r5 => kbr (decide (v4.1.1 < (Nat.cast (List.length v2.1.2.1) : Int)))
 (kbr v4.1.2.1
 (kgd (0 ≤ v4.1.1) <| kgd (Int.toNat v4.1.1 < (List.length v2.1.2.1)) <| kbnd (v2.1.2.1[Int.toNat v4.1.1]?) fun a6 => kgd (a6 ≠ 0#64) <| r5 ((Go.SL.w64 (v4.1.1 + 1), (cond true ((v2.1.1 % a6) != 0#64) false, ())), ()))
 (r5 ((Go.SL.w64 (v4.1.1 + 1), (false, ())), ())))
 (kbr v4.1.2.1
 (kgd (few (List.length v2.1.2.1) (List.length ((v2.1.1 :: []) : List (BitVec 64)))) <| r3 (((v2.1.1 + 1#64), ((v2.1.2.1 ++ (v2.1.1 :: [])), ())), ()))
 (r3 (((v2.1.1 + 1#64), (v2.1.2.1, ())), ())))) ((0, (true, ())), ()))
 (some ((v2.1.2.1, ()), ()))) ((2#64, ([], ())), ())
theorem kF169 (x0) (x1) : F169 x0 x1 = K169 x0 x1 := by
  unfold F169 K169
  (try simp only [bth_self]) <;> simp only [gdE_rfl, gdE_Tk, bnd_k, gd_k, br_k, jn_k, iter_k, bth_k, nlq_k, ob_k]
end Go.GX
namespace Go.GX
open Go.RowKit Go.SL
set_option maxRecDepth 100000
def PR64 : List (BitVec 64) := [2#64, 3#64, 5#64, 7#64, 11#64, 13#64, 17#64, 19#64, 23#64, 29#64, 31#64, 37#64, 41#64, 43#64, 47#64, 53#64, 59#64, 61#64, 67#64, 71#64, 73#64, 79#64, 83#64, 89#64, 97#64, 101#64, 103#64, 107#64, 109#64, 113#64, 127#64, 131#64, 137#64, 139#64, 149#64, 151#64, 157#64, 163#64, 167#64, 173#64, 179#64, 181#64, 191#64, 193#64, 197#64, 199#64, 211#64, 223#64, 227#64, 229#64, 233#64, 239#64, 241#64, 251#64, 257#64, 263#64, 269#64, 271#64, 277#64, 281#64, 283#64, 293#64, 307#64, 311#64]
def PR8 : List (BitVec 64) := [2#64, 3#64, 5#64, 7#64, 11#64, 13#64, 17#64, 19#64]
theorem k169a : K169 (64, ()) () = some ((PR64, ()), ()) := by kernel_rfl
theorem k169b : K169 (8, ()) () = some ((PR8, ()), ()) := by kernel_rfl
theorem h169a : F169 (64, ()) () = some ((PR64, ()), ()) := (kF169 _ _).trans k169a
theorem h169b : F169 (8, ()) () = some ((PR8, ()), ()) := (kF169 _ _).trans k169b
end Go.GX
