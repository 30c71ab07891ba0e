/- The plain functions in words that compute; closed values. -/
import Derived.Test.YtgbgkhcfgblcbaaR3
import Derived.KernelRfl
set_option linter.unusedVariables false
set_option linter.unusedSimpArgs false
set_option linter.unnecessarySimpa false
namespace Go.GX
open Go.RowKit Go.SL
set_option linter.unusedVariables false
set_option linter.unusedSimpArgs false
set_option maxRecDepth 100000
set_option maxHeartbeats 4000000
instance dqE : DecidableEq (Int × Int × List (BitVec 8) × List Int × Unit) := inferInstance
instance dqL : DecidableEq (Int × Int × List (Int × Int × List (BitVec 8) × List Int × Unit) × Unit) := inferInstance
instance dqS : DecidableEq (Int × Int × List Int × List (BitVec 8) × Unit) := inferInstance
instance dqM1 : DecidableEq (List (Int × Int × List (BitVec 8) × List Int × Unit) × List Int × List (BitVec 8) × Unit) := inferInstance
instance dqM2 : DecidableEq (Int × Int × Bool × List (Int × Int × List (BitVec 8) × List Int × Unit) × List Int × List (BitVec 8) × Unit) := inferInstance
instance dqM3 : DecidableEq (Int × Int × Int × Int × Bool × List (Int × Int × List (BitVec 8) × List Int × Unit) × List Int × List (BitVec 8) × Unit) := inferInstance
instance dqM4 : DecidableEq (Int × Int × Int × Int × Int × Bool × List (Int × Int × List (BitVec 8) × List Int × Unit) × List Int × List (BitVec 8) × Unit) := inferInstance
instance dqM : DecidableEq (Int × Int × Int × Int × Int × Int × Int × Bool × List (Int × Int × List (BitVec 8) × List Int × Unit) × List Int × List (BitVec 8) × Unit) := inferInstance
instance dqR1 : DecidableEq (Int × List (Int × Int × List (BitVec 8) × List Int × Unit) × List (Int × Int × Int × Int × Int × Int × Int × Bool × List (Int × Int × List (BitVec 8) × List Int × Unit) × List Int × List (BitVec 8) × Unit) × Unit) := inferInstance
instance dqR : DecidableEq ((Int × Int × Unit) × Bool × (Int × Int × List Int × List (BitVec 8) × Unit) × Int × List (Int × Int × List (BitVec 8) × List Int × Unit) × List (Int × Int × Int × Int × Int × Int × Int × Bool × List (Int × Int × List (BitVec 8) × List Int × Unit) × List Int × List (BitVec 8) × Unit) × Unit) := inferInstance
noncomputable def K67 (x0 : (Int) × (Int) × (Int) × Unit) (x1 : Unit) : Option (((Bool) × Unit) × Unit) :=
 kbr (decide (x0.1 ≥ x0.2.1))
 (some ((cond true (decide (x0.1 ≤ x0.2.2.1)) false, ()), ()))
 (some ((false, ()), ()))
theorem kF67 (x0) (x1) : F67 x0 x1 = K67 x0 x1 := by
  unfold F67 K67
  simp only [gdE_rfl, gdE_Tk, bnd_k, gd_k, br_k, jn_k, iter_k, bth_k, nlq_k]
noncomputable def K69 (x0 : (Int) × Unit) (x1 : Unit) : Option (((Bool) × Unit) × Unit) :=
 some (((decide (x0.1 < 0)), ()), ())
theorem kF69 (x0) (x1) : F69 x0 x1 = K69 x0 x1 := by
  unfold F69 K69
  simp only [gdE_rfl, gdE_Tk, bnd_k, gd_k, br_k, jn_k, iter_k, bth_k, nlq_k]
noncomputable def K88 (x0 : (Int) × Unit) (x1 : (List (BitVec 8)) × Unit) : Option (((List (BitVec 8)) × (Int) × Unit) × Unit) :=
 kbr (decide (x0.1 < 0))
 (some (([], (1, ())), ()))
 (kbnd (K99 (BitVec.ofInt 64 x0.1, ()) ()) fun a2 => kgd ((8 : Int) ≠ 0) <| kbnd (K62 () (x1.1, ())) fun a3 => kgd (few (List.length a3.1.1) (List.length ((BitVec.ofInt 8 (Go.SL.w64 (Int.tdiv (Go.SL.w64 (a2.1.1 + 7)) 8)) :: []) : List (BitVec 8)))) <| kiter (fun (v4 : ((Int) × (List (BitVec 8)) × Unit) × Unit) => fun r5 => kbr (decide (v4.1.1 ≥ 0))
 (kgd (0 ≤ Go.SL.w64 (8 * v4.1.1)) <| kgd (few (List.length v4.1.2.1) (List.length ((BitVec.ofInt 8 (Go.SL.ishr64 x0.1 (Int.toNat (Go.SL.w64 (8 * v4.1.1)))) :: []) : List (BitVec 8)))) <| r5 ((Go.SL.w64 (v4.1.1 - 1), ((v4.1.2.1 ++ (BitVec.ofInt 8 (Go.SL.ishr64 x0.1 (Int.toNat (Go.SL.w64 (8 * v4.1.1)))) :: [])), ())), ()))
 (some ((v4.1.2.1, (0, ())), ()))) ((Go.SL.w64 (Go.SL.w64 (Int.tdiv (Go.SL.w64 (a2.1.1 + 7)) 8) - 1), ((a3.1.1 ++ (BitVec.ofInt 8 (Go.SL.w64 (Int.tdiv (Go.SL.w64 (a2.1.1 + 7)) 8)) :: [])), ())), ()))
theorem kF88 (x0) (x1) : F88 x0 x1 = K88 x0 x1 := by
  unfold F88 K88
  simp only [gdE_rfl, gdE_Tk, bnd_k, gd_k, br_k, jn_k, iter_k, bth_k, nlq_k, kF62, kF99]
noncomputable def K70 (x0 : Unit) (x1 : (List (BitVec 8)) × (List (BitVec 8)) × Unit) : Option (((List (BitVec 8)) × (Int) × Unit) × Unit) :=
 kbr (decide ((Nat.cast (List.length x1.2.1) : Int) > 4096))
 (some (([], (2, ())), ()))
 (kbnd (K88 ((Nat.cast (List.length x1.2.1) : Int), ()) (x1.1, ())) fun a2 => kgd (few (List.length a2.1.1) (List.length x1.2.1)) <| some (((a2.1.1 ++ x1.2.1), (0, ())), ()))
theorem kF70 (x0) (x1) : F70 x0 x1 = K70 x0 x1 := by
  unfold F70 K70
  simp only [gdE_rfl, gdE_Tk, bnd_k, gd_k, br_k, jn_k, iter_k, bth_k, nlq_k, kF88]
noncomputable def K71 (x0 : Unit) (x1 : (List (Int)) × Unit) : Option (((List (BitVec 8)) × Unit) × Unit) :=
 kiter (fun (v2 : ((Int) × (List (BitVec 8)) × Unit) × Unit) => fun r3 => kbr (decide (v2.1.1 < (Nat.cast (List.length x1.1) : Int)))
 (kgd (0 ≤ v2.1.1) <| kbnd (x1.1[Int.toNat v2.1.1]?) fun a4 => kbnd (K88 (a4, ()) (v2.1.2.1, ())) fun a5 => r3 ((Go.SL.w64 (v2.1.1 + 1), (a5.1.1, ())), ()))
 (some ((v2.1.2.1, ()), ()))) ((0, ([], ())), ())
theorem kF71 (x0) (x1) : F71 x0 x1 = K71 x0 x1 := by
  unfold F71 K71
  simp only [gdE_rfl, gdE_Tk, bnd_k, gd_k, br_k, jn_k, iter_k, bth_k, nlq_k, kF88]
noncomputable def K89 (x0 : (Int) × Unit) (x1 : Unit) : Option (((Bool) × Unit) × Unit) :=
 some (((decide (x0.1 < 0)), ()), ())
theorem kF89 (x0) (x1) : F89 x0 x1 = K89 x0 x1 := by
  unfold F89 K89
  simp only [gdE_rfl, gdE_Tk, bnd_k, gd_k, br_k, jn_k, iter_k, bth_k, nlq_k]
noncomputable def K72 (x0 : Unit) (x1 : (List (BitVec 8)) × (List (Int)) × Unit) : Option (((List (BitVec 8)) × (Int) × Unit) × Unit) :=
 kbr (decide ((Nat.cast (List.length x1.2.1) : Int) > 4096))
 (some (([], (2, ())), ()))
 (kiter (fun (v2 : ((Int) × Unit) × Unit) => fun r3 => kbr (decide (v2.1.1 < (Nat.cast (List.length x1.2.1) : Int)))
 (kgd (0 ≤ v2.1.1) <| kbnd (x1.2.1[Int.toNat v2.1.1]?) fun a4 => kbnd (K89 (a4, ()) ()) fun a5 => kbr a5.1.1
 (kbr (decide (v2.1.1 ≥ 0))
 (some (([], (1, ())), ()))
 (kbnd (K88 ((Nat.cast (List.length x1.2.1) : Int), ()) (x1.1, ())) fun a6 => kiter (fun (v7 : ((Int) × (List (BitVec 8)) × Unit) × Unit) => fun r8 => kbr (decide (v7.1.1 < (Nat.cast (List.length x1.2.1) : Int)))
 (kgd (0 ≤ v7.1.1) <| kbnd (x1.2.1[Int.toNat v7.1.1]?) fun a9 => kbnd (K88 (a9, ()) (v7.1.2.1, ())) fun a10 => r8 ((Go.SL.w64 (v7.1.1 + 1), (a10.1.1, ())), ()))
 (some ((v7.1.2.1, (0, ())), ()))) ((0, (a6.1.1, ())), ())))
 (r3 ((Go.SL.w64 (v2.1.1 + 1), ()), ())))
 (kbr false
 (some (([], (1, ())), ()))
 (kbnd (K88 ((Nat.cast (List.length x1.2.1) : Int), ()) (x1.1, ())) fun a11 => kiter (fun (v12 : ((Int) × (List (BitVec 8)) × Unit) × Unit) => fun r13 => kbr (decide (v12.1.1 < (Nat.cast (List.length x1.2.1) : Int)))
 (kgd (0 ≤ v12.1.1) <| kbnd (x1.2.1[Int.toNat v12.1.1]?) fun a14 => kbnd (K88 (a14, ()) (v12.1.2.1, ())) fun a15 => r13 ((Go.SL.w64 (v12.1.1 + 1), (a15.1.1, ())), ()))
 (some ((v12.1.2.1, (0, ())), ()))) ((0, (a11.1.1, ())), ())))) ((0, ()), ()))
theorem kF72 (x0) (x1) : F72 x0 x1 = K72 x0 x1 := by
  unfold F72 K72
  simp only [gdE_rfl, gdE_Tk, bnd_k, gd_k, br_k, jn_k, iter_k, bth_k, nlq_k, kF88, kF89]
noncomputable def K40 (x0 : Unit) (x1 : ((Int) × (Int) × (List (BitVec 8)) × (List (Int)) × Unit) × Unit) : Option (((List (BitVec 8)) × (Int) × Unit) × Unit) :=
 kjn (fun (v2 : ((Bool) × Unit) × Unit) => kbr v2.1.1
 (some (([], (1, ())), ()))
 (kbr (decide ((Nat.cast (List.length x1.1.2.2.1) : Int) > 4096))
 (kbr (decide ((Nat.cast (List.length x1.1.2.2.1) : Int) > 4096))
 (some (([], (2, ())), ()))
 (kbnd (K71 () ((x1.1.1 :: (x1.1.2.1 :: [])), ())) fun a3 => kbnd (K70 () (a3.1.1, (x1.1.2.2.1, ()))) fun a4 => kbnd (K72 () (a4.1.1, (x1.1.2.2.2.1, ()))) fun a5 => some ((a5.1.1, (a5.1.2.1, ())), ())))
 (kbr (decide ((Nat.cast (List.length x1.1.2.2.2.1) : Int) > 7))
 (some (([], (2, ())), ()))
 (kbnd (K71 () ((x1.1.1 :: (x1.1.2.1 :: [])), ())) fun a6 => kbnd (K70 () (a6.1.1, (x1.1.2.2.1, ()))) fun a7 => kbnd (K72 () (a7.1.1, (x1.1.2.2.2.1, ()))) fun a8 => some ((a8.1.1, (a8.1.2.1, ())), ())))))
 (fun j9 => kbnd (K67 (x1.1.1, (0, (1099511627776, ()))) ()) fun a10 => kbr (!a10.1.1)
 (j9 (((!a10.1.1), ()), ()))
 (kbnd (K67 (x1.1.2.1, (0, (2, ()))) ()) fun a11 => kbr (!a11.1.1)
 (j9 (((!a11.1.1), ()), ()))
 (kiter (fun (v12 : ((Int) × Unit) × Unit) => fun r13 => kbr (decide (v12.1.1 < (Nat.cast (List.length x1.1.2.2.2.1) : Int)))
 (kgd (0 ≤ v12.1.1) <| kbnd (x1.1.2.2.2.1[Int.toNat v12.1.1]?) fun a14 => kbnd (K69 (a14, ()) ()) fun a15 => kbr a15.1.1
 (j9 (((decide (v12.1.1 ≥ 0)), ()), ()))
 (r13 ((Go.SL.w64 (v12.1.1 + 1), ()), ())))
 (j9 ((false, ()), ()))) ((0, ()), ()))))
theorem kF40 (x0) (x1) : F40 x0 x1 = K40 x0 x1 := by
  unfold F40 K40
  simp only [gdE_rfl, gdE_Tk, bnd_k, gd_k, br_k, jn_k, iter_k, bth_k, nlq_k, kF67, kF69, kF70, kF71, kF72]
noncomputable def K16 (x0 : ((Int) × ((Int) × (Int) × Unit) × (Int) × (Int) × ((Int) × (Int) × (List ((Int) × (Int) × (List (BitVec 8)) × (List (Int)) × Unit)) × Unit) × (Int) × ((Int) × (Int) × (List (Int)) × (List (BitVec 8)) × Unit) × (List (Int)) × (Int) × (Int) × (List ((Int) × (Int) × Unit)) × (((Int) × (Int) × Unit) × (Bool) × ((Int) × (Int) × (List (Int)) × (List (BitVec 8)) × Unit) × (Int) × (List ((Int) × (Int) × (List (BitVec 8)) × (List (Int)) × Unit)) × (List ((Int) × (Int) × (Int) × (Int) × (Int) × (Int) × (Int) × (Bool) × (List ((Int) × (Int) × (List (BitVec 8)) × (List (Int)) × Unit)) × (List (Int)) × (List (BitVec 8)) × Unit)) × Unit) × Unit) × ((Int) × (Int) × (List (BitVec 8)) × (List (Int)) × Unit) × Unit) (x1 : Unit) : Option (((Int) × (((Int) × (Int) × Unit) × (Bool) × ((Int) × (Int) × (List (Int)) × (List (BitVec 8)) × Unit) × (Int) × (List ((Int) × (Int) × (List (BitVec 8)) × (List (Int)) × Unit)) × (List ((Int) × (Int) × (Int) × (Int) × (Int) × (Int) × (Int) × (Bool) × (List ((Int) × (Int) × (List (BitVec 8)) × (List (Int)) × Unit)) × (List (Int)) × (List (BitVec 8)) × Unit)) × Unit) × (Int) × Unit) × ((Int) × ((Int) × (Int) × Unit) × (Int) × (Int) × ((Int) × (Int) × (List ((Int) × (Int) × (List (BitVec 8)) × (List (Int)) × Unit)) × Unit) × (Int) × ((Int) × (Int) × (List (Int)) × (List (BitVec 8)) × Unit) × (List (Int)) × (Int) × (Int) × (List ((Int) × (Int) × Unit)) × (((Int) × (Int) × Unit) × (Bool) × ((Int) × (Int) × (List (Int)) × (List (BitVec 8)) × Unit) × (Int) × (List ((Int) × (Int) × (List (BitVec 8)) × (List (Int)) × Unit)) × (List ((Int) × (Int) × (Int) × (Int) × (Int) × (Int) × (Int) × (Bool) × (List ((Int) × (Int) × (List (BitVec 8)) × (List (Int)) × Unit)) × (List (Int)) × (List (BitVec 8)) × Unit)) × Unit) × Unit) × Unit) :=
 kbnd (K40 () ((x0.1.2.1.1, (x0.2.1.2.1, (x0.2.1.2.2.1, (x0.2.1.2.2.2.1, ())))), ())) fun a2 => kjn (fun (v3 : ((Int) × Unit) × ((Int) × ((Int) × (Int) × Unit) × (Int) × (Int) × ((Int) × (Int) × (List ((Int) × (Int) × (List (BitVec 8)) × (List (Int)) × Unit)) × Unit) × (Int) × ((Int) × (Int) × (List (Int)) × (List (BitVec 8)) × Unit) × (List (Int)) × (Int) × (Int) × (List ((Int) × (Int) × Unit)) × (((Int) × (Int) × Unit) × (Bool) × ((Int) × (Int) × (List (Int)) × (List (BitVec 8)) × Unit) × (Int) × (List ((Int) × (Int) × (List (BitVec 8)) × (List (Int)) × Unit)) × (List ((Int) × (Int) × (Int) × (Int) × (Int) × (Int) × (Int) × (Bool) × (List ((Int) × (Int) × (List (BitVec 8)) × (List (Int)) × Unit)) × (List (Int)) × (List (BitVec 8)) × Unit)) × Unit) × Unit) × Unit) => kbr (v3.1.1 != 0)
 (some ((0, (((0, (0, ())), (false, ((0, (0, ([], ([], ())))), (0, ([], ([], ())))))), (v3.1.1, ()))), ((v3.2.1.1, ((v3.2.1.2.1.1, (v3.2.1.2.1.2.1, ())), (v3.2.1.2.2.1, (v3.2.1.2.2.2.1, (v3.2.1.2.2.2.2.1, (v3.2.1.2.2.2.2.2.1, (v3.2.1.2.2.2.2.2.2.1, (v3.2.1.2.2.2.2.2.2.2.1, (v3.2.1.2.2.2.2.2.2.2.2.1, (v3.2.1.2.2.2.2.2.2.2.2.2.1, (v3.2.1.2.2.2.2.2.2.2.2.2.2.1, (v3.2.1.2.2.2.2.2.2.2.2.2.2.2.1, ())))))))))))), ())))
 (kbnd (K43 ((v3.2.1.1, ((v3.2.1.2.1.1, (v3.2.1.2.1.2.1, ())), (v3.2.1.2.2.1, (v3.2.1.2.2.2.1, (v3.2.1.2.2.2.2.1, (v3.2.1.2.2.2.2.2.1, (v3.2.1.2.2.2.2.2.2.1, (v3.2.1.2.2.2.2.2.2.2.1, (v3.2.1.2.2.2.2.2.2.2.2.1, (v3.2.1.2.2.2.2.2.2.2.2.2.1, (v3.2.1.2.2.2.2.2.2.2.2.2.2.1, (v3.2.1.2.2.2.2.2.2.2.2.2.2.2.1, ())))))))))))), ((x0.1.2.1.1, (x0.2.1.2.1, (x0.2.1.2.2.1, (x0.2.1.2.2.2.1, ())))), ())) ()) fun a4 => kbr (!(eqIL (a4.2.1.2.1.1 :: (a4.2.1.2.1.2.1 :: [])) (v3.2.1.2.1.1 :: (v3.2.1.2.1.2.1 :: []))))
 (some ((a4.1.1, ((a4.2.1.2.1, (true, (a4.2.1.2.2.2.2.2.2.2.2.2.2.2.1.2.2.1, (a4.2.1.2.2.2.2.2.2.2.2.2.2.2.1.2.2.2.1, (a4.2.1.2.2.2.2.2.2.2.2.2.2.2.1.2.2.2.2.1, (a4.2.1.2.2.2.2.2.2.2.2.2.2.2.1.2.2.2.2.2.1, ())))))), (0, ()))), ((a4.2.1.1, (a4.2.1.2.1, (a4.2.1.2.2.1, (a4.2.1.2.2.2.1, (a4.2.1.2.2.2.2.1, (a4.2.1.2.2.2.2.2.1, (a4.2.1.2.2.2.2.2.2.1, (a4.2.1.2.2.2.2.2.2.2.1, (a4.2.1.2.2.2.2.2.2.2.2.1, (a4.2.1.2.2.2.2.2.2.2.2.2.1, (a4.2.1.2.2.2.2.2.2.2.2.2.2.1, (((0, (0, ())), (false, ((0, (0, ([], ([], ())))), (0, ([], ([], ())))))), ())))))))))))), ())))
 (some ((a4.1.1, ((a4.2.1.2.2.2.2.2.2.2.2.2.2.2.1.1, (a4.2.1.2.2.2.2.2.2.2.2.2.2.2.1.2.1, (a4.2.1.2.2.2.2.2.2.2.2.2.2.2.1.2.2.1, (a4.2.1.2.2.2.2.2.2.2.2.2.2.2.1.2.2.2.1, (a4.2.1.2.2.2.2.2.2.2.2.2.2.2.1.2.2.2.2.1, (a4.2.1.2.2.2.2.2.2.2.2.2.2.2.1.2.2.2.2.2.1, ())))))), (0, ()))), ((a4.2.1.1, (a4.2.1.2.1, (a4.2.1.2.2.1, (a4.2.1.2.2.2.1, (a4.2.1.2.2.2.2.1, (a4.2.1.2.2.2.2.2.1, (a4.2.1.2.2.2.2.2.2.1, (a4.2.1.2.2.2.2.2.2.2.1, (a4.2.1.2.2.2.2.2.2.2.2.1, (a4.2.1.2.2.2.2.2.2.2.2.2.1, (a4.2.1.2.2.2.2.2.2.2.2.2.2.1, (((0, (0, ())), (false, ((0, (0, ([], ([], ())))), (0, ([], ([], ())))))), ())))))))))))), ())))))
 (fun j5 => kbr (x0.1.2.2.1 != 3)
 (j5 ((190, ()), ((x0.1.1, ((x0.1.2.1.1, (x0.1.2.1.2.1, ())), (x0.1.2.2.1, (x0.1.2.2.2.1, (x0.1.2.2.2.2.1, (x0.1.2.2.2.2.2.1, (x0.1.2.2.2.2.2.2.1, (x0.1.2.2.2.2.2.2.2.1, (x0.1.2.2.2.2.2.2.2.2.1, (x0.1.2.2.2.2.2.2.2.2.2.1, (x0.1.2.2.2.2.2.2.2.2.2.2.1, (x0.1.2.2.2.2.2.2.2.2.2.2.2.1, ())))))))))))), ())))
 (kjn (fun (v6 : ((Bool) × Unit) × Unit) => kbr v6.1.1
 (j5 ((1, ()), ((x0.1.1, ((x0.1.2.1.1, (x0.1.2.1.2.1, ())), (x0.1.2.2.1, (x0.1.2.2.2.1, (x0.1.2.2.2.2.1, (x0.1.2.2.2.2.2.1, (x0.1.2.2.2.2.2.2.1, (x0.1.2.2.2.2.2.2.2.1, (x0.1.2.2.2.2.2.2.2.2.1, (x0.1.2.2.2.2.2.2.2.2.2.1, (x0.1.2.2.2.2.2.2.2.2.2.2.1, (x0.1.2.2.2.2.2.2.2.2.2.2.2.1, ())))))))))))), ())))
 (kbr (a2.1.2.1 != 0)
 (j5 ((a2.1.2.1, ()), ((x0.1.1, ((x0.1.2.1.1, (x0.1.2.1.2.1, ())), (x0.1.2.2.1, (x0.1.2.2.2.1, (x0.1.2.2.2.2.1, (x0.1.2.2.2.2.2.1, (x0.1.2.2.2.2.2.2.1, (x0.1.2.2.2.2.2.2.2.1, (x0.1.2.2.2.2.2.2.2.2.1, (x0.1.2.2.2.2.2.2.2.2.2.1, (x0.1.2.2.2.2.2.2.2.2.2.2.1, (x0.1.2.2.2.2.2.2.2.2.2.2.2.1, ())))))))))))), ())))
 (kbr (decide (Go.SL.w64 (Go.SL.w64 (Go.SL.w64 (x0.1.2.2.2.2.1.1 + (Nat.cast (List.length x0.1.2.2.2.2.1.2.2.1) : Int)) - Go.SL.w64 (x0.1.2.2.2.2.1.1 + 1)) + 1) ≥ 64))
 (j5 ((191, ()), ((x0.1.1, ((x0.1.2.1.1, (x0.1.2.1.2.1, ())), (x0.1.2.2.1, (x0.1.2.2.2.1, ((x0.1.2.2.2.2.1.1, (x0.1.2.2.2.2.1.2.1, (x0.1.2.2.2.2.1.2.2.1, ()))), (x0.1.2.2.2.2.2.1, (x0.1.2.2.2.2.2.2.1, (x0.1.2.2.2.2.2.2.2.1, (x0.1.2.2.2.2.2.2.2.2.1, (x0.1.2.2.2.2.2.2.2.2.2.1, (x0.1.2.2.2.2.2.2.2.2.2.2.1, ((x0.1.2.2.2.2.2.2.2.2.2.2.2.1.1, (x0.1.2.2.2.2.2.2.2.2.2.2.2.1.2.1, (x0.1.2.2.2.2.2.2.2.2.2.2.2.1.2.2.1, (x0.1.2.2.2.2.2.2.2.2.2.2.2.1.2.2.2.1, (x0.1.2.2.2.2.2.2.2.2.2.2.2.1.2.2.2.2.1, (x0.1.2.2.2.2.2.2.2.2.2.2.2.1.2.2.2.2.2.1, ())))))), ())))))))))))), ())))
 (kbr (x0.2.1.2.1 == 2)
 (none)
 (j5 ((a2.1.2.1, ()), ((x0.1.1, ((x0.1.2.1.1, (x0.1.2.1.2.1, ())), (x0.1.2.2.1, (x0.1.2.2.2.1, ((x0.1.2.2.2.2.1.1, (x0.1.2.2.2.2.1.2.1, (x0.1.2.2.2.2.1.2.2.1, ()))), (x0.1.2.2.2.2.2.1, (x0.1.2.2.2.2.2.2.1, (x0.1.2.2.2.2.2.2.2.1, (x0.1.2.2.2.2.2.2.2.2.1, (x0.1.2.2.2.2.2.2.2.2.2.1, (x0.1.2.2.2.2.2.2.2.2.2.2.1, ((x0.1.2.2.2.2.2.2.2.2.2.2.2.1.1, (x0.1.2.2.2.2.2.2.2.2.2.2.2.1.2.1, (x0.1.2.2.2.2.2.2.2.2.2.2.2.1.2.2.1, (x0.1.2.2.2.2.2.2.2.2.2.2.2.1.2.2.2.1, (x0.1.2.2.2.2.2.2.2.2.2.2.2.1.2.2.2.2.1, (x0.1.2.2.2.2.2.2.2.2.2.2.2.1.2.2.2.2.2.1, ())))))), ())))))))))))), ())))))))
 (fun j7 => kbr (x0.2.1.2.1 != 1)
 (j7 ((cond true (x0.2.1.2.1 != 2) false, ()), ()))
 (j7 ((false, ()), ())))))
theorem kF16 (x0) (x1) : F16 x0 x1 = K16 x0 x1 := by
  unfold F16 K16
  simp only [gdE_rfl, gdE_Tk, bnd_k, gd_k, br_k, jn_k, iter_k, bth_k, nlq_k, kF40, kF43]
noncomputable def K80 (x0 : ((Int) × (Int) × (List ((Int) × (Int) × (List (BitVec 8)) × (List (Int)) × Unit)) × Unit) × (Int) × (Int) × Unit) (x1 : Unit) : Option (((Int) × Unit) × ((Int) × (Int) × (List ((Int) × (Int) × (List (BitVec 8)) × (List (Int)) × Unit)) × Unit) × Unit) :=
 kbr (decide (x0.2.1 < x0.1.1))
 (some ((1, ()), ((x0.1.1, (x0.1.2.1, (x0.1.2.2.1, ()))), ())))
 (kbr (cond false true (decide (x0.2.1 > 1099511627776)))
 (some ((1, ()), ((x0.1.1, (x0.1.2.1, (x0.1.2.2.1, ()))), ())))
 (kbnd (K44 ((x0.1.1, (x0.1.2.1, (x0.1.2.2.1, ()))), (x0.2.1, ())) ()) fun a2 => kjn (fun (v3 : (Unit) × ((Int) × (Int) × (List ((Int) × (Int) × (List (BitVec 8)) × (List (Int)) × Unit)) × Unit) × Unit) => some ((0, ()), ((x0.2.1, (x0.2.2.1, (v3.2.1.2.2.1, ()))), ())))
 (fun j4 => kjn (fun (v5 : ((Bool) × Unit) × Unit) => kbr v5.1.1
 (kgd (0 ≤ Go.SL.w64 (x0.2.1 - a2.2.1.1)) <| kgd (Int.toNat (Go.SL.w64 (x0.2.1 - a2.2.1.1)) ≤ (List.length a2.2.1.2.2.1)) <| kgd ((List.length a2.2.1.2.2.1) ≤ (List.length a2.2.1.2.2.1)) <| knlq (decide (((List.length a2.2.1.2.2.1) - Int.toNat (Go.SL.w64 (x0.2.1 - a2.2.1.1))) = 0))
 (j4 ((), ((a2.2.1.1, (a2.2.1.2.1, ([], ()))), ())))
 (kgd ((Int.toNat (Go.SL.w64 (x0.2.1 - a2.2.1.1)) + ((List.length a2.2.1.2.2.1) - Int.toNat (Go.SL.w64 (x0.2.1 - a2.2.1.1)))) ≤ (List.length a2.2.1.2.2.1)) <| kgd (few 0 (List.length (List.take ((List.length a2.2.1.2.2.1) - Int.toNat (Go.SL.w64 (x0.2.1 - a2.2.1.1))) (List.drop (Int.toNat (Go.SL.w64 (x0.2.1 - a2.2.1.1))) a2.2.1.2.2.1)))) <| j4 ((), ((a2.2.1.1, (a2.2.1.2.1, (([] ++ List.take ((List.length a2.2.1.2.2.1) - Int.toNat (Go.SL.w64 (x0.2.1 - a2.2.1.1))) (List.drop (Int.toNat (Go.SL.w64 (x0.2.1 - a2.2.1.1))) a2.2.1.2.2.1)), ()))), ()))))
 (j4 ((), ((a2.2.1.1, (a2.2.1.2.1, ([], ()))), ()))))
 (fun j6 => kbr (x0.2.1 == a2.2.1.1)
 (j6 ((true, ()), ()))
 (kbr (a2.1.2.1 == 0)
 (j6 ((cond false true (cond true (a2.1.1 == x0.2.2.1) false), ()), ()))
 (j6 ((false, ()), ())))))))
theorem kF80 (x0) (x1) : F80 x0 x1 = K80 x0 x1 := by
  unfold F80 K80
  simp only [gdE_rfl, gdE_Tk, bnd_k, gd_k, br_k, jn_k, iter_k, bth_k, nlq_k, kF44]
end Go.GX
