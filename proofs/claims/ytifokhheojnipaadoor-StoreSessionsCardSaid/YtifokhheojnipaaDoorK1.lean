/- The plain functions in words that compute; closed values. -/
import Derived.Test.YtifokhheojnipaaDoorZ2
import Derived.KernelRfl
set_option linter.unusedVariables false
set_option linter.unusedSimpArgs false
set_option linter.unnecessarySimpa false
namespace Go.GX
open Go.RowKit Go.SL
set_option linter.unusedVariables false
set_option linter.unusedSimpArgs false
set_option maxRecDepth 100000
set_option maxHeartbeats 4000000
def kbnd {α β : Type} (x : Option α) (f : α → Option β) : Option β := match x with
  | some a => f a
  | none => none
theorem bnd_k {α β : Type} (x : Option α) (f : α → Option β) : bnd x f = kbnd x f := by rw [bnd_eq]; cases x <;> rfl
def kgd {β : Type} (c : Prop) [Decidable c] (x : Option β) : Option β := if c then x else none
theorem gd_k {β : Type} (c : Prop) [Decidable c] (x : Option β) : gd c x = kgd c x := gd_eq c x
def kbr {β : Type} (c : Bool) (x y : Option β) : Option β := cond c x y
theorem br_k {β : Type} (c : Bool) (x y : Option β) : br c x y = kbr c x y := br_eq c x y
def kjn {α β : Type} (j : α → Option β) (f : (α → Option β) → Option β) : Option β := f j
theorem jn_k {α β : Type} (j : α → Option β) (f : (α → Option β) → Option β) : jn j f = kjn j f := jn_e j f
/-- 2 ^ d rounds, and what is behind -/
def kit {α β : Type} (f : α → (α → Option β) → Option β) : Nat → (α → Option β) → α → Option β
  | 0, k => fun a => f a k
  | d + 1, k => kit f d (kit f d k)
theorem kit_eq {α β : Type} (f : α → (α → Option β) → Option β) : ∀ (d m : Nat), itn f (2 ^ d + m) = kit f d (itn f m)
  | 0, m => by rw [Nat.pow_zero, Nat.add_comm]; rfl
  | d + 1, m => by
    rw [show 2 ^ (d + 1) + m = 2 ^ d + (2 ^ d + m) from by rw [Nat.pow_succ]; omega, kit_eq f d, kit_eq f d]; rfl
def kiter {α β : Type} (f : α → (α → Option β) → Option β) (a : α) : Option β := kit f 40 (fun _ => none) a
theorem iter_k {α β : Type} (f : α → (α → Option β) → Option β) (a : α) : iter f a = kiter f a := by
  rw [iter_eq, show fuel = 2 ^ 40 + 0 from by unfold fuel; rfl, kit_eq]; rfl
def kbth {β : Type} [DecidableEq (Option β)] (x y : Option β) : Option β := if x = y then x else none
theorem bth_k {β : Type} [DecidableEq (Option β)] (x y : Option β) : bth x y = kbth x y := by
  unfold kbth
  by_cases h : x = y
  · subst h; rw [bth_self, if_pos rfl]
  · rw [if_neg h, bth_eq]; unfold bth0; rw [if_neg h]
def knlq {β : Type} [DecidableEq (Option β)] (c : Bool) (x y : Option β) : Option β := cond c (kbth x y) y
theorem nlq_k {β : Type} [DecidableEq (Option β)] (c : Bool) (x y : Option β) : nlq c x y = knlq c x y := by rw [nlq_eq, bth_k]; rfl
def kob {α β : Type} (x : Option α) (a : Option β) (f : α → Option β) : Option β := match x with
  | none => a
  | some y => f y
theorem ob_k {α β : Type} (x : Option α) (a : Option β) (f : α → Option β) : ob x a f = kob x a f := by rw [ob_eq]; cases x <;> rfl
instance dqRep : DecidableEq (Int × Int × Int × List (BitVec 8) × Unit) := inferInstance
instance dqVer : DecidableEq (List (List (BitVec 8) × Int × Bool × Unit)) := inferInstance
instance dqRng : DecidableEq (List (Bool × List (List (BitVec 8) × Int × Bool × Unit) × Unit)) := inferInstance
instance dqKey : DecidableEq (List (Bool × List (List (BitVec 8) × Int × Bool × Unit) × Unit) × Unit) := inferInstance
instance dqSea : DecidableEq (List (Int × Int × Int × (Int × Int × Int × List (BitVec 8) × Unit) × Unit)) := inferInstance
instance dqTab : DecidableEq (List (Int × Int × Int × (Int × Int × Int × List (BitVec 8) × Unit) × Unit) × Int × Unit) := inferInstance
instance dqSrc : DecidableEq (List (BitVec 8) × List (BitVec 8) × Int × Unit) := inferInstance
instance dqSto : DecidableEq ((List (BitVec 8) × List (BitVec 8) × Int × Unit) × (List (Bool × List (List (BitVec 8) × Int × Bool × Unit) × Unit) × Unit) × (List (Int × Int × Int × (Int × Int × Int × List (BitVec 8) × Unit) × Unit) × Int × Unit) × Unit) := inferInstance
theorem gdE_Tk {β : Type} (x : Option β) : gdE True x = x := gdE_t trivial x
noncomputable def K58 (x0 : Unit) (x1 : (List (List (BitVec 8))) × Unit) : Option (((List (BitVec 8)) × Unit) × Unit) :=
 kiter (fun (v2 : ((Int) × (Int) × Unit) × Unit) => fun r3 => kbr (decide (v2.1.1 < (Nat.cast (List.length x1.1) : Int)))
 (kgd (0 ≤ v2.1.1) <| kbnd (x1.1[Int.toNat v2.1.1]?) fun a4 => kbr (decide (Go.SL.w64 (v2.1.2.1 + (Nat.cast (List.length a4) : Int)) < 0))
 (none)
 (r3 ((Go.SL.w64 (v2.1.1 + 1), (Go.SL.w64 (v2.1.2.1 + (Nat.cast (List.length a4) : Int)), ())), ())))
 (kjn (fun (v5 : (Unit) × Unit) => kbr (decide (Go.SL.w64 (v2.1.2.1 - 0) > 0))
 (kgd ((0 : Int) ≤ 0) <| kgd ((0 : Nat) ≤ 0) <| kgd ((0 : Nat) ≤ 0) <| kgd (0 ≤ Go.SL.w64 (v2.1.2.1 - 0)) <| kgd (few9 0 (Int.toNat (Go.SL.w64 (v2.1.2.1 - 0)))) <| kgd ((0 : Int) ≤ 0) <| kgd ((0 : Nat) ≤ 0) <| kgd (0 ≤ (List.length (([] ++ List.replicate (Int.toNat (Go.SL.w64 (v2.1.2.1 - 0))) 0#8) : List (BitVec 8)))) <| kgd ((0 : Nat) = 0) <| kgd (0 ≤ (List.length (([] ++ List.replicate (Int.toNat (Go.SL.w64 (v2.1.2.1 - 0))) 0#8) : List (BitVec 8)))) <| kiter (fun (v6 : ((Int) × (List (BitVec 8)) × Unit) × Unit) => fun r7 => kbr (decide (v6.1.1 < (Nat.cast (List.length x1.1) : Int)))
 (kgd (0 ≤ v6.1.1) <| kbnd (x1.1[Int.toNat v6.1.1]?) fun a8 => kgd (few (List.length v6.1.2.1) (List.length a8)) <| r7 ((Go.SL.w64 (v6.1.1 + 1), ((v6.1.2.1 ++ a8), ())), ()))
 (some ((v6.1.2.1, ()), ()))) ((0, (List.take 0 ([] ++ List.replicate (Int.toNat (Go.SL.w64 (v2.1.2.1 - 0))) 0#8), ())), ()))
 (kiter (fun (v9 : ((Int) × (List (BitVec 8)) × Unit) × Unit) => fun r10 => kbr (decide (v9.1.1 < (Nat.cast (List.length x1.1) : Int)))
 (kgd (0 ≤ v9.1.1) <| kbnd (x1.1[Int.toNat v9.1.1]?) fun a11 => kgd (few (List.length v9.1.2.1) (List.length a11)) <| r10 ((Go.SL.w64 (v9.1.1 + 1), ((v9.1.2.1 ++ a11), ())), ()))
 (some ((v9.1.2.1, ()), ()))) ((0, ([], ())), ())))
 (fun j12 => kbr (decide (v2.1.2.1 < 0))
 (none)
 (j12 ((), ()))))) ((0, (0, ())), ())
theorem kF58 (x0) (x1) : F58 x0 x1 = K58 x0 x1 := by
  unfold F58 K58
  (try simp only [bth_self]) <;> simp only [gdE_rfl, gdE_Tk, bnd_k, gd_k, br_k, jn_k, iter_k, bth_k, nlq_k, ob_k]
noncomputable def K45 (x0 : Unit) (x1 : (List (BitVec 8)) × Unit) : Option (((List (BitVec 8)) × Unit) × Unit) :=
 knlq (decide ((List.length x1.1) = 0))
 (some (([], ()), ()))
 (kgd (few 0 (List.length x1.1)) <| some ((([] ++ x1.1), ()), ()))
theorem kF45 (x0) (x1) : F45 x0 x1 = K45 x0 x1 := by
  unfold F45 K45
  (try simp only [bth_self]) <;> simp only [gdE_rfl, gdE_Tk, bnd_k, gd_k, br_k, jn_k, iter_k, bth_k, nlq_k, ob_k]
noncomputable def K80 (x0 : Unit) (x1 : Unit) : Option (((List (BitVec 32)) × Unit) × Unit) :=
 some ((List.set (List.set (List.set (List.set (List.set (List.set (List.set (List.set (List.replicate 8 0#32) 0 1779033703#32) 1 3144134277#32) 2 1013904242#32) 3 2773480762#32) 4 1359893119#32) 5 2600822924#32) 6 528734635#32) 7 1541459225#32, ()), ())
theorem kF80 (x0) (x1) : F80 x0 x1 = K80 x0 x1 := by
  unfold F80 K80
  (try simp only [bth_self]) <;> simp only [gdE_rfl, gdE_Tk, bnd_k, gd_k, br_k, jn_k, iter_k, bth_k, nlq_k, ob_k]
noncomputable def K87 (x0 : (BitVec 32) × (Int) × Unit) (x1 : Unit) : Option (((BitVec 32) × Unit) × Unit) :=
 some ((((x0.1 <<< BitVec.toNat (BitVec.ofInt 64 x0.2.1 &&& 31#64)) ||| (x0.1 >>> BitVec.toNat (32#64 - (BitVec.ofInt 64 x0.2.1 &&& 31#64)))), ()), ())
theorem kF87 (x0) (x1) : F87 x0 x1 = K87 x0 x1 := by
  unfold F87 K87
  (try simp only [bth_self]) <;> simp only [gdE_rfl, gdE_Tk, bnd_k, gd_k, br_k, jn_k, iter_k, bth_k, nlq_k, ob_k]
noncomputable def K86 (x0 : (BitVec 32) × (Int) × Unit) (x1 : Unit) : Option (((BitVec 32) × Unit) × Unit) :=
 kbnd (K87 (x0.1, (Go.SL.w64 (0 - x0.2.1), ())) ()) fun a2 => some ((a2.1.1, ()), ())
theorem kF86 (x0) (x1) : F86 x0 x1 = K86 x0 x1 := by
  unfold F86 K86
  (try simp only [bth_self]) <;> simp only [gdE_rfl, gdE_Tk, bnd_k, gd_k, br_k, jn_k, iter_k, bth_k, nlq_k, ob_k, kF87]
noncomputable def K81 (x0 : (List (BitVec 32)) × (List (BitVec 8)) × Unit) (x1 : Unit) : Option (((List (BitVec 32)) × Unit) × Unit) :=
 kiter (fun (v2 : ((Int) × Unit) × (List (BitVec 32)) × Unit) => fun r3 => kbr (decide (v2.1.1 < 64))
 (kbr (decide (v2.1.1 < 16))
 (kgd (0 ≤ Go.SL.w64 (4 * v2.1.1)) <| kgd (Int.toNat (Go.SL.w64 (4 * v2.1.1)) < 64) <| kbnd (x0.2.1[Int.toNat (Go.SL.w64 (4 * v2.1.1))]?) fun a4 => kgd (0 ≤ Go.SL.w64 (Go.SL.w64 (4 * v2.1.1) + 1)) <| kgd (Int.toNat (Go.SL.w64 (Go.SL.w64 (4 * v2.1.1) + 1)) < 64) <| kbnd (x0.2.1[Int.toNat (Go.SL.w64 (Go.SL.w64 (4 * v2.1.1) + 1))]?) fun a5 => kgd (0 ≤ Go.SL.w64 (Go.SL.w64 (4 * v2.1.1) + 2)) <| kgd (Int.toNat (Go.SL.w64 (Go.SL.w64 (4 * v2.1.1) + 2)) < 64) <| kbnd (x0.2.1[Int.toNat (Go.SL.w64 (Go.SL.w64 (4 * v2.1.1) + 2))]?) fun a6 => kgd (0 ≤ Go.SL.w64 (Go.SL.w64 (4 * v2.1.1) + 3)) <| kgd (Int.toNat (Go.SL.w64 (Go.SL.w64 (4 * v2.1.1) + 3)) < 64) <| kbnd (x0.2.1[Int.toNat (Go.SL.w64 (Go.SL.w64 (4 * v2.1.1) + 3))]?) fun a7 => kgd (0 ≤ v2.1.1) <| kgd (Int.toNat v2.1.1 < 64) <| kgd (Int.toNat v2.1.1 < List.length v2.2.1) <| r3 ((Go.SL.w64 (v2.1.1 + 1), ()), (List.set v2.2.1 (Int.toNat v2.1.1) ((((BitVec.setWidth 32 a4 <<< 24) ||| (BitVec.setWidth 32 a5 <<< 16)) ||| (BitVec.setWidth 32 a6 <<< 8)) ||| BitVec.setWidth 32 a7), ())))
 (kgd (0 ≤ Go.SL.w64 (v2.1.1 - 15)) <| kgd (Int.toNat (Go.SL.w64 (v2.1.1 - 15)) < 64) <| kbnd (v2.2.1[Int.toNat (Go.SL.w64 (v2.1.1 - 15))]?) fun a8 => kgd (0 ≤ Go.SL.w64 (v2.1.1 - 2)) <| kgd (Int.toNat (Go.SL.w64 (v2.1.1 - 2)) < 64) <| kbnd (v2.2.1[Int.toNat (Go.SL.w64 (v2.1.1 - 2))]?) fun a9 => kgd (0 ≤ Go.SL.w64 (v2.1.1 - 16)) <| kgd (Int.toNat (Go.SL.w64 (v2.1.1 - 16)) < 64) <| kbnd (v2.2.1[Int.toNat (Go.SL.w64 (v2.1.1 - 16))]?) fun a10 => kgd (0 ≤ Go.SL.w64 (v2.1.1 - 7)) <| kgd (Int.toNat (Go.SL.w64 (v2.1.1 - 7)) < 64) <| kbnd (v2.2.1[Int.toNat (Go.SL.w64 (v2.1.1 - 7))]?) fun a11 => kbnd (K86 (a8, (7, ())) ()) fun a12 => kbnd (K86 (a8, (18, ())) ()) fun a13 => kbnd (K86 (a9, (17, ())) ()) fun a14 => kbnd (K86 (a9, (19, ())) ()) fun a15 => kgd (0 ≤ v2.1.1) <| kgd (Int.toNat v2.1.1 < 64) <| kgd (Int.toNat v2.1.1 < List.length v2.2.1) <| r3 ((Go.SL.w64 (v2.1.1 + 1), ()), (List.set v2.2.1 (Int.toNat v2.1.1) (((a10 + a11) + ((a12.1.1 ^^^ a13.1.1) ^^^ (a8 >>> 3))) + ((a14.1.1 ^^^ a15.1.1) ^^^ (a9 >>> 10))), ()))))
 (kgd ((0 : Int) ≤ 0) <| kgd (0 < 8) <| kbnd x0.1[0]? fun a16 => kgd ((0 : Int) ≤ 1) <| kgd (1 < 8) <| kbnd x0.1[1]? fun a17 => kgd ((0 : Int) ≤ 2) <| kgd (2 < 8) <| kbnd x0.1[2]? fun a18 => kgd ((0 : Int) ≤ 3) <| kgd (3 < 8) <| kbnd x0.1[3]? fun a19 => kgd ((0 : Int) ≤ 4) <| kgd (4 < 8) <| kbnd x0.1[4]? fun a20 => kgd ((0 : Int) ≤ 5) <| kgd (5 < 8) <| kbnd x0.1[5]? fun a21 => kgd ((0 : Int) ≤ 6) <| kgd (6 < 8) <| kbnd x0.1[6]? fun a22 => kgd ((0 : Int) ≤ 7) <| kgd (7 < 8) <| kbnd x0.1[7]? fun a23 => kiter (fun (v24 : ((Int) × (BitVec 32) × (BitVec 32) × (BitVec 32) × (BitVec 32) × (BitVec 32) × (BitVec 32) × (BitVec 32) × (BitVec 32) × Unit) × Unit) => fun r25 => kbr (decide (v24.1.1 < 64))
 (kgd (0 ≤ v24.1.1) <| kbnd (shaAdd[Int.toNat v24.1.1]?) fun a26 => kgd (0 ≤ v24.1.1) <| kgd (Int.toNat v24.1.1 < 64) <| kbnd (v2.2.1[Int.toNat v24.1.1]?) fun a27 => kbnd (K86 (v24.1.2.2.2.2.1, (6, ())) ()) fun a28 => kbnd (K86 (v24.1.2.2.2.2.1, (11, ())) ()) fun a29 => kbnd (K86 (v24.1.2.2.2.2.1, (25, ())) ()) fun a30 => kbnd (K86 (v24.1.2.2.2.2.2.2.2.2.1, (2, ())) ()) fun a31 => kbnd (K86 (v24.1.2.2.2.2.2.2.2.2.1, (13, ())) ()) fun a32 => kbnd (K86 (v24.1.2.2.2.2.2.2.2.2.1, (22, ())) ()) fun a33 => r25 ((Go.SL.w64 (v24.1.1 + 1), (v24.1.2.2.1, (v24.1.2.2.2.1, (v24.1.2.2.2.2.1, ((v24.1.2.2.2.2.2.1 + ((((v24.1.2.1 + ((a28.1.1 ^^^ a29.1.1) ^^^ a30.1.1)) + (v24.1.2.2.1 ^^^ (v24.1.2.2.2.2.1 &&& (v24.1.2.2.2.1 ^^^ v24.1.2.2.1)))) + a26) + a27)), (v24.1.2.2.2.2.2.2.1, (v24.1.2.2.2.2.2.2.2.1, (v24.1.2.2.2.2.2.2.2.2.1, ((((((v24.1.2.1 + ((a28.1.1 ^^^ a29.1.1) ^^^ a30.1.1)) + (v24.1.2.2.1 ^^^ (v24.1.2.2.2.2.1 &&& (v24.1.2.2.2.1 ^^^ v24.1.2.2.1)))) + a26) + a27) + (((a31.1.1 ^^^ a32.1.1) ^^^ a33.1.1) + ((v24.1.2.2.2.2.2.2.2.2.1 &&& v24.1.2.2.2.2.2.2.2.1) ||| (v24.1.2.2.2.2.2.2.1 &&& (v24.1.2.2.2.2.2.2.2.2.1 ||| v24.1.2.2.2.2.2.2.2.1))))), ()))))))))), ()))
 (kiter (fun (v34 : ((Int) × Unit) × (List (BitVec 32)) × Unit) => fun r35 => kbr (decide (v34.1.1 < 8))
 (kgd (0 ≤ v34.1.1) <| kbnd ((List.set (List.set (List.set (List.set (List.set (List.set (List.set (List.set (List.replicate 8 0#32) 0 v24.1.2.2.2.2.2.2.2.2.1) 1 v24.1.2.2.2.2.2.2.2.1) 2 v24.1.2.2.2.2.2.2.1) 3 v24.1.2.2.2.2.2.1) 4 v24.1.2.2.2.2.1) 5 v24.1.2.2.2.1) 6 v24.1.2.2.1) 7 v24.1.2.1)[Int.toNat v34.1.1]?) fun a36 => kgd (0 ≤ v34.1.1) <| kgd (Int.toNat v34.1.1 < 8) <| kbnd (v34.2.1[Int.toNat v34.1.1]?) fun a37 => kgd (0 ≤ v34.1.1) <| kgd (Int.toNat v34.1.1 < 8) <| kgd (Int.toNat v34.1.1 < List.length v34.2.1) <| r35 ((Go.SL.w64 (v34.1.1 + 1), ()), (List.set v34.2.1 (Int.toNat v34.1.1) (a37 + a36), ())))
 (some ((v34.2.1, ()), ()))) ((0, ()), (x0.1, ())))) ((0, (a23, (a22, (a21, (a20, (a19, (a18, (a17, (a16, ()))))))))), ()))) ((0, ()), (List.replicate 64 0#32, ()))
theorem kF81 (x0) (x1) : F81 x0 x1 = K81 x0 x1 := by
  unfold F81 K81
  (try simp only [bth_self]) <;> simp only [gdE_rfl, gdE_Tk, bnd_k, gd_k, br_k, jn_k, iter_k, bth_k, nlq_k, ob_k, kF86]
noncomputable def K73 (x0 : Unit) (x1 : (List (BitVec 8)) × Unit) : Option (((List (BitVec 8)) × Unit) × Unit) :=
 kbnd (K45 () (x1.1, ())) fun a2 => kgd (few (List.length a2.1.1) 1) <| kgd ((64 : Int) ≠ 0) <| kgd ((64 : Int) ≠ 0) <| kgd (0 ≤ Int.tmod (Go.SL.w64 (120 - Int.tmod (Nat.cast (List.length ((a2.1.1 ++ (128#8 :: [])) : List (BitVec 8))) : Int) 64)) 64) <| kgd (few9 (List.length ((a2.1.1 ++ (128#8 :: [])) : List (BitVec 8))) (Int.toNat (Int.tmod (Go.SL.w64 (120 - Int.tmod (Nat.cast (List.length ((a2.1.1 ++ (128#8 :: [])) : List (BitVec 8))) : Int) 64)) 64))) <| kiter (fun (v3 : ((Int) × (List (BitVec 8)) × Unit) × Unit) => fun r4 => kbr (decide (v3.1.1 < 8))
 (kgd (0 ≤ Go.SL.w64 (56 - Go.SL.w64 (8 * v3.1.1))) <| kgd (few (List.length v3.1.2.1) (List.length ((BitVec.ofInt 8 (Go.SL.ishr64 (Go.SL.w64 (8 * (Nat.cast (List.length x1.1) : Int))) (Int.toNat (Go.SL.w64 (56 - Go.SL.w64 (8 * v3.1.1))))) :: []) : List (BitVec 8)))) <| r4 ((Go.SL.w64 (v3.1.1 + 1), ((v3.1.2.1 ++ (BitVec.ofInt 8 (Go.SL.ishr64 (Go.SL.w64 (8 * (Nat.cast (List.length x1.1) : Int))) (Int.toNat (Go.SL.w64 (56 - Go.SL.w64 (8 * v3.1.1))))) :: [])), ())), ()))
 (kbnd (K80 () ()) fun a5 => kiter (fun (v6 : ((List (BitVec 8)) × Unit) × (List (BitVec 32)) × Unit) => fun r7 => kbr (decide ((Nat.cast (List.length v6.1.1) : Int) > 0))
 (kgd (64 ≤ (List.length v6.1.1)) <| kbnd (K81 (v6.2.1, (List.take 64 v6.1.1, ())) ()) fun a8 => kgd ((0 : Int) ≤ 64) <| kgd (64 ≤ (List.length v6.1.1)) <| kgd ((List.length v6.1.1) ≤ (List.length v6.1.1)) <| r7 ((List.drop 64 (List.take (List.length v6.1.1) v6.1.1), ()), (a8.1.1, ())))
 (kiter (fun (v9 : ((Int) × Unit) × (List (BitVec 8)) × Unit) => fun r10 => kbr (decide (v9.1.1 < 32))
 (kgd ((4 : Int) ≠ 0) <| kgd (0 ≤ Go.SL.w64 (Int.tdiv v9.1.1 4)) <| kgd (Int.toNat (Go.SL.w64 (Int.tdiv v9.1.1 4)) < 8) <| kbnd (v6.2.1[Int.toNat (Go.SL.w64 (Int.tdiv v9.1.1 4))]?) fun a11 => kgd ((4 : Int) ≠ 0) <| kgd (0 ≤ Go.SL.w64 (24 - Go.SL.w64 (8 * Int.tmod v9.1.1 4))) <| kgd (0 ≤ v9.1.1) <| kgd (Int.toNat v9.1.1 < 32) <| kgd (Int.toNat v9.1.1 < (List.length v9.2.1)) <| r10 ((Go.SL.w64 (v9.1.1 + 1), ()), (List.set v9.2.1 (Int.toNat v9.1.1) (BitVec.setWidth 8 (a11 >>> Int.toNat (Go.SL.w64 (24 - Go.SL.w64 (8 * Int.tmod v9.1.1 4))))), ())))
 (some ((v9.2.1, ()), ()))) ((0, ()), (List.replicate 32 0#8, ())))) ((v3.1.2.1, ()), (a5.1.1, ())))) ((0, (((a2.1.1 ++ (128#8 :: [])) ++ List.replicate (Int.toNat (Int.tmod (Go.SL.w64 (120 - Int.tmod (Nat.cast (List.length ((a2.1.1 ++ (128#8 :: [])) : List (BitVec 8))) : Int) 64)) 64)) 0#8), ())), ())
theorem kF73 (x0) (x1) : F73 x0 x1 = K73 x0 x1 := by
  unfold F73 K73
  (try simp only [bth_self]) <;> simp only [gdE_rfl, gdE_Tk, bnd_k, gd_k, br_k, jn_k, iter_k, bth_k, nlq_k, ob_k, kF45, kF80, kF81]
noncomputable def K62 (x0 : Unit) (x1 : (List (BitVec 8)) × (List (BitVec 8)) × Unit) : Option (((List (BitVec 8)) × Unit) × Unit) :=
 kjn (fun (v2 : ((List (BitVec 8)) × Unit) × Unit) => kgd ((0 : Nat) ≤ 64) <| kgd ((64 : Nat) ≤ 64) <| kgd ((0 : Nat) < 64) <| kgd ((64 : Nat) ≤ 64) <| kiter (fun (v3 : ((Int) × Unit) × (List (BitVec 8)) × (List (BitVec 8)) × Unit) => fun r4 => kbr (decide (v3.1.1 < 64))
 (kgd (0 ≤ v3.1.1) <| kgd (Int.toNat v3.1.1 < 64) <| kbnd (v3.2.2.1[Int.toNat v3.1.1]?) fun a5 => kgd (0 ≤ v3.1.1) <| kgd (Int.toNat v3.1.1 < 64) <| kgd (Int.toNat v3.1.1 < (List.length v3.2.2.1)) <| kgd (0 ≤ v3.1.1) <| kgd (Int.toNat v3.1.1 < 64) <| kbnd (v3.2.1[Int.toNat v3.1.1]?) fun a6 => kgd (0 ≤ v3.1.1) <| kgd (Int.toNat v3.1.1 < 64) <| kgd (Int.toNat v3.1.1 < (List.length v3.2.1)) <| r4 ((Go.SL.w64 (v3.1.1 + 1), ()), (List.set v3.2.1 (Int.toNat v3.1.1) (a6 ^^^ 92#8), (List.set v3.2.2.1 (Int.toNat v3.1.1) (a5 ^^^ 54#8), ()))))
 (kgd ((0 : Nat) ≤ 64) <| kgd ((64 : Nat) ≤ 64) <| kgd (64 ≤ (List.length v3.2.2.1)) <| kbnd (K58 () ((List.take 64 (List.drop 0 v3.2.2.1) :: (x1.2.1 :: [])), ())) fun a7 => kbnd (K73 () (a7.1.1, ())) fun a8 => kgd ((0 : Nat) ≤ 64) <| kgd ((64 : Nat) ≤ 64) <| kgd ((0 : Nat) ≤ 32) <| kgd ((32 : Nat) ≤ 32) <| kgd (64 ≤ (List.length v3.2.1)) <| kgd (32 ≤ (List.length a8.1.1)) <| kbnd (K58 () ((List.take 64 (List.drop 0 v3.2.1) :: (List.take 32 (List.drop 0 a8.1.1) :: [])), ())) fun a9 => kbnd (K73 () (a9.1.1, ())) fun a10 => some ((a10.1.1, ()), ()))) ((0, ()), (ovl (List.replicate 64 0#8) 0 (List.take 64 v2.1.1), (ovl (List.replicate 64 0#8) 0 (List.take 64 v2.1.1), ()))))
 (fun j11 => kbr (decide ((Nat.cast (List.length x1.1) : Int) > 64))
 (kbnd (K73 () (x1.1, ())) fun a12 => kgd ((0 : Nat) ≤ 32) <| kgd ((32 : Nat) ≤ 32) <| kgd (32 ≤ (List.length a12.1.1)) <| j11 ((List.take 32 (List.drop 0 a12.1.1), ()), ()))
 (j11 ((x1.1, ()), ())))
theorem kF62 (x0) (x1) : F62 x0 x1 = K62 x0 x1 := by
  unfold F62 K62
  (try simp only [bth_self]) <;> simp only [gdE_rfl, gdE_Tk, bnd_k, gd_k, br_k, jn_k, iter_k, bth_k, nlq_k, ob_k, kF58, kF73]
noncomputable def K44 (x0 : ((List (BitVec 8)) × (List (BitVec 8)) × (Int) × Unit) × Unit) (x1 : (List (BitVec 8)) × Unit) : Option ((Unit) × ((List (BitVec 8)) × (List (BitVec 8)) × (Int) × Unit) × Unit) :=
 kgd ((0 : Nat) ≤ 32) <| kgd ((32 : Nat) ≤ 32) <| kgd ((0 : Nat) ≤ 32) <| kgd ((32 : Nat) ≤ 32) <| kgd (32 ≤ (List.length x0.1.2.1)) <| kbnd (K58 () ((List.take 32 (List.drop 0 x0.1.2.1) :: ((0#8 :: []) :: (x1.1 :: []))), ())) fun a2 => kgd (32 ≤ (List.length x0.1.1)) <| kbnd (K62 () (List.take 32 (List.drop 0 x0.1.1), (a2.1.1, ()))) fun a3 => kgd ((0 : Nat) ≤ 32) <| kgd ((32 : Nat) ≤ 32) <| kgd ((0 : Nat) ≤ 32) <| kgd ((32 : Nat) ≤ 32) <| kgd (32 ≤ (List.length x0.1.2.1)) <| kbnd (K58 () ((List.take 32 (List.drop 0 x0.1.2.1) :: []), ())) fun a4 => kgd (32 ≤ (List.length a3.1.1)) <| kbnd (K62 () (List.take 32 (List.drop 0 a3.1.1), (a4.1.1, ()))) fun a5 => kbr (decide ((Nat.cast (List.length x1.1) : Int) > 0))
 (kgd ((0 : Nat) ≤ 32) <| kgd ((32 : Nat) ≤ 32) <| kgd ((0 : Nat) ≤ 32) <| kgd ((32 : Nat) ≤ 32) <| kgd (32 ≤ (List.length a5.1.1)) <| kbnd (K58 () ((List.take 32 (List.drop 0 a5.1.1) :: ((1#8 :: []) :: (x1.1 :: []))), ())) fun a6 => kgd (32 ≤ (List.length a3.1.1)) <| kbnd (K62 () (List.take 32 (List.drop 0 a3.1.1), (a6.1.1, ()))) fun a7 => kgd ((0 : Nat) ≤ 32) <| kgd ((32 : Nat) ≤ 32) <| kgd ((0 : Nat) ≤ 32) <| kgd ((32 : Nat) ≤ 32) <| kgd (32 ≤ (List.length a5.1.1)) <| kbnd (K58 () ((List.take 32 (List.drop 0 a5.1.1) :: []), ())) fun a8 => kgd (32 ≤ (List.length a7.1.1)) <| kbnd (K62 () (List.take 32 (List.drop 0 a7.1.1), (a8.1.1, ()))) fun a9 => some ((), ((a7.1.1, (a9.1.1, (x0.1.2.2.1, ()))), ())))
 (some ((), ((a3.1.1, (a5.1.1, (x0.1.2.2.1, ()))), ())))
theorem kF44 (x0) (x1) : F44 x0 x1 = K44 x0 x1 := by
  unfold F44 K44
  (try simp only [bth_self]) <;> simp only [gdE_rfl, gdE_Tk, bnd_k, gd_k, br_k, jn_k, iter_k, bth_k, nlq_k, ob_k, kF58, kF62]
noncomputable def K20 (x0 : ((List (BitVec 8)) × (List (BitVec 8)) × (Int) × Unit) × Unit) (x1 : (List (BitVec 8)) × Unit) : Option ((Unit) × ((List (BitVec 8)) × (List (BitVec 8)) × (Int) × Unit) × Unit) :=
 kbnd (K44 (x0.1, ()) (x1.1, ())) fun a2 => some ((), ((a2.2.1.1, (a2.2.1.2.1, (1, ()))), ()))
theorem kF20 (x0) (x1) : F20 x0 x1 = K20 x0 x1 := by
  unfold F20 K20
  (try simp only [bth_self]) <;> simp only [gdE_rfl, gdE_Tk, bnd_k, gd_k, br_k, jn_k, iter_k, bth_k, nlq_k, ob_k, kF44]
noncomputable def K9 (x0 : Unit) (x1 : (List (BitVec 8)) × Unit) : Option ((((List (BitVec 8)) × (List (BitVec 8)) × (Int) × Unit) × Unit) × Unit) :=
 kiter (fun (v2 : ((Int) × Unit) × ((List (BitVec 8)) × (List (BitVec 8)) × (Int) × Unit) × Unit) => fun r3 => kbr (decide (v2.1.1 < 32))
 (kgd (0 ≤ v2.1.1) <| kgd (Int.toNat v2.1.1 < 32) <| kgd (Int.toNat v2.1.1 < (List.length v2.2.1.2.1)) <| r3 ((Go.SL.w64 (v2.1.1 + 1), ()), ((v2.2.1.1, (List.set v2.2.1.2.1 (Int.toNat v2.1.1) 1#8, (v2.2.1.2.2.1, ()))), ())))
 (kbnd (K20 ((v2.2.1.1, (v2.2.1.2.1, (v2.2.1.2.2.1, ()))), ()) (x1.1, ())) fun a4 => some ((a4.2.1, ()), ()))) ((0, ()), ((List.replicate 32 0#8, (List.replicate 32 0#8, (0, ()))), ()))
theorem kF9 (x0) (x1) : F9 x0 x1 = K9 x0 x1 := by
  unfold F9 K9
  (try simp only [bth_self]) <;> simp only [gdE_rfl, gdE_Tk, bnd_k, gd_k, br_k, jn_k, iter_k, bth_k, nlq_k, ob_k, kF20]
noncomputable def K10 (x0 : Unit) (x1 : Unit) : Option ((((List ((Bool) × (List ((List (BitVec 8)) × (Int) × (Bool) × Unit)) × Unit)) × Unit) × Unit) × Unit) :=
 some ((([], ()), ()), ())
theorem kF10 (x0) (x1) : F10 x0 x1 = K10 x0 x1 := by
  unfold F10 K10
  (try simp only [bth_self]) <;> simp only [gdE_rfl, gdE_Tk, bnd_k, gd_k, br_k, jn_k, iter_k, bth_k, nlq_k, ob_k]
noncomputable def K11 (x0 : Unit) (x1 : Unit) : Option ((((List ((Int) × (Int) × (Int) × ((Int) × (Int) × (Int) × (List (BitVec 8)) × Unit) × Unit)) × (Int) × Unit) × Unit) × Unit) :=
 some ((([], (1, ())), ()), ())
theorem kF11 (x0) (x1) : F11 x0 x1 = K11 x0 x1 := by
  unfold F11 K11
  (try simp only [bth_self]) <;> simp only [gdE_rfl, gdE_Tk, bnd_k, gd_k, br_k, jn_k, iter_k, bth_k, nlq_k, ob_k]
noncomputable def K5 (x0 : Unit) (x1 : (List (BitVec 8)) × Unit) : Option (((((List (BitVec 8)) × (List (BitVec 8)) × (Int) × Unit) × ((List ((Bool) × (List ((List (BitVec 8)) × (Int) × (Bool) × Unit)) × Unit)) × Unit) × ((List ((Int) × (Int) × (Int) × ((Int) × (Int) × (Int) × (List (BitVec 8)) × Unit) × Unit)) × (Int) × Unit) × Unit) × Unit) × Unit) :=
 kbnd (K9 () (x1.1, ())) fun a2 => kbnd (K10 () ()) fun a3 => kbnd (K11 () ()) fun a4 => some (((a2.1.1, (a3.1.1, (a4.1.1, ()))), ()), ())
theorem kF5 (x0) (x1) : F5 x0 x1 = K5 x0 x1 := by
  unfold F5 K5
  (try simp only [bth_self]) <;> simp only [gdE_rfl, gdE_Tk, bnd_k, gd_k, br_k, jn_k, iter_k, bth_k, nlq_k, ob_k, kF9, kF10, kF11]
noncomputable def K23 (x0 : (Int) × (Int) × (Int) × Unit) (x1 : Unit) : Option (((Bool) × Unit) × Unit) :=
 kbr (decide (x0.1 ≥ x0.2.1))
 (some ((cond true (decide (x0.1 ≤ x0.2.2.1)) false, ()), ()))
 (some ((false, ()), ()))
theorem kF23 (x0) (x1) : F23 x0 x1 = K23 x0 x1 := by
  unfold F23 K23
  (try simp only [bth_self]) <;> simp only [gdE_rfl, gdE_Tk, bnd_k, gd_k, br_k, jn_k, iter_k, bth_k, nlq_k, ob_k]
noncomputable def K12 (x0 : Unit) (x1 : ((Int) × (Int) × (Int) × (Int) × (Int) × (List (BitVec 8)) × (List (BitVec 8)) × Unit) × Unit) : Option (((Int) × Unit) × Unit) :=
 kjn (fun (v2 : (Unit) × ((Int) × (Int) × (Int) × (Int) × (Int) × (List (BitVec 8)) × (List (BitVec 8)) × Unit) × (Bool) × Unit) => kjn (fun (v3 : (Unit) × ((Int) × (Int) × (Int) × (Int) × (Int) × (List (BitVec 8)) × (List (BitVec 8)) × Unit) × (Bool) × Unit) => kbr (!v3.2.2.1)
 (some ((1, ()), ()))
 (kbr (cond false true (v3.2.1.2.1 != 0))
 (some ((1, ()), ()))
 (kbr (cond false true (v3.2.1.2.2.1 != 0))
 (some ((1, ()), ()))
 (kbr (cond false true (v3.2.1.2.2.2.1 != 0))
 (some ((1, ()), ()))
 (kbr (cond false true (v3.2.1.2.2.2.2.1 != 0))
 (some ((1, ()), ()))
 (kbr (cond false true (decide ((Nat.cast (List.length v3.2.1.2.2.2.2.2.1) : Int) > 0)))
 (some ((1, ()), ()))
 (kbr (cond false true (decide ((Nat.cast (List.length v3.2.1.2.2.2.2.2.2.1) : Int) > 0)))
 (some ((1, ()), ()))
 (some ((0, ()), ())))))))))
 (fun j4 => kjn (fun (v5 : ((Bool) × Unit) × Unit) => kbr v5.1.1
 (j4 ((), ((v2.2.1.1, (v2.2.1.2.1, (v2.2.1.2.2.1, (v2.2.1.2.2.2.1, (v2.2.1.2.2.2.2.1, (v2.2.1.2.2.2.2.2.1, (v2.2.1.2.2.2.2.2.2.1, ()))))))), (v2.2.2.1, ()))))
 (kjn (fun (v6 : ((Bool) × Unit) × Unit) => kbr v6.1.1
 (kbnd (K23 (x1.1.2.2.2.1, (1, (1099511627776, ()))) ()) fun a7 => kbr v2.2.2.1
 (j4 ((), ((v2.2.1.1, (v2.2.1.2.1, (v2.2.1.2.2.1, (0, (v2.2.1.2.2.2.2.1, (v2.2.1.2.2.2.2.2.1, (v2.2.1.2.2.2.2.2.2.1, ()))))))), (cond true a7.1.1 false, ()))))
 (j4 ((), ((v2.2.1.1, (v2.2.1.2.1, (v2.2.1.2.2.1, (0, (v2.2.1.2.2.2.2.1, (v2.2.1.2.2.2.2.2.1, (v2.2.1.2.2.2.2.2.2.1, ()))))))), (false, ())))))
 (kbr (x1.1.1 == 5)
 (kbnd (K23 (x1.1.2.2.2.1, (1, (1099511627776, ()))) ()) fun a8 => kbr v2.2.2.1
 (kbnd (K23 (x1.1.2.2.2.2.1, (0, (1, ()))) ()) fun a9 => kbr (cond true a8.1.1 false)
 (j4 ((), ((v2.2.1.1, (v2.2.1.2.1, (v2.2.1.2.2.1, (0, (0, (v2.2.1.2.2.2.2.2.1, (v2.2.1.2.2.2.2.2.2.1, ()))))))), (cond true a9.1.1 false, ()))))
 (j4 ((), ((v2.2.1.1, (v2.2.1.2.1, (v2.2.1.2.2.1, (0, (0, (v2.2.1.2.2.2.2.2.1, (v2.2.1.2.2.2.2.2.2.1, ()))))))), (false, ())))))
 (kbnd (K23 (x1.1.2.2.2.2.1, (0, (1, ()))) ()) fun a10 => j4 ((), ((v2.2.1.1, (v2.2.1.2.1, (v2.2.1.2.2.1, (0, (0, (v2.2.1.2.2.2.2.2.1, (v2.2.1.2.2.2.2.2.2.1, ()))))))), (false, ())))))
 (kbr (x1.1.1 == 6)
 (kbnd (K23 (x1.1.2.2.2.1, (1, (1099511627776, ()))) ()) fun a11 => kbr v2.2.2.1
 (kbr (cond true a11.1.1 false)
 (j4 ((), ((v2.2.1.1, (v2.2.1.2.1, (v2.2.1.2.2.1, (0, (0, (v2.2.1.2.2.2.2.2.1, (v2.2.1.2.2.2.2.2.2.1, ()))))))), (cond true (decide (x1.1.2.2.2.2.1 ≥ 1)) false, ()))))
 (j4 ((), ((v2.2.1.1, (v2.2.1.2.1, (v2.2.1.2.2.1, (0, (0, (v2.2.1.2.2.2.2.2.1, (v2.2.1.2.2.2.2.2.2.1, ()))))))), (false, ())))))
 (j4 ((), ((v2.2.1.1, (v2.2.1.2.1, (v2.2.1.2.2.1, (0, (0, (v2.2.1.2.2.2.2.2.1, (v2.2.1.2.2.2.2.2.2.1, ()))))))), (false, ())))))
 (kbr (x1.1.1 == 7)
 (kbnd (K23 (x1.1.2.2.2.1, (1, (1099511627776, ()))) ()) fun a12 => kbr v2.2.2.1
 (kbnd (K23 ((Nat.cast (List.length x1.1.2.2.2.2.2.1) : Int), (0, (64, ()))) ()) fun a13 => kbr (cond true a12.1.1 false)
 (kbr (cond true a13.1.1 false)
 (j4 ((), ((v2.2.1.1, (v2.2.1.2.1, (v2.2.1.2.2.1, (0, (v2.2.1.2.2.2.2.1, ([], ([], ()))))))), (cond true (decide ((Nat.cast (List.length x1.1.2.2.2.2.2.2.1) : Int) ≤ 32)) false, ()))))
 (j4 ((), ((v2.2.1.1, (v2.2.1.2.1, (v2.2.1.2.2.1, (0, (v2.2.1.2.2.2.2.1, ([], ([], ()))))))), (false, ())))))
 (j4 ((), ((v2.2.1.1, (v2.2.1.2.1, (v2.2.1.2.2.1, (0, (v2.2.1.2.2.2.2.1, ([], ([], ()))))))), (false, ())))))
 (kbnd (K23 ((Nat.cast (List.length x1.1.2.2.2.2.2.1) : Int), (0, (64, ()))) ()) fun a14 => j4 ((), ((v2.2.1.1, (v2.2.1.2.1, (v2.2.1.2.2.1, (0, (v2.2.1.2.2.2.2.1, ([], ([], ()))))))), (false, ())))))
 (kjn (fun (v15 : ((Bool) × Unit) × Unit) => kbr v15.1.1
 (kbnd (K23 ((Nat.cast (List.length x1.1.2.2.2.2.2.1) : Int), (0, (128, ()))) ()) fun a16 => kbr v2.2.2.1
 (kbr (cond true a16.1.1 false)
 (j4 ((), ((v2.2.1.1, (v2.2.1.2.1, (v2.2.1.2.2.1, (v2.2.1.2.2.2.1, (v2.2.1.2.2.2.2.1, ([], ([], ()))))))), (cond true (decide ((Nat.cast (List.length x1.1.2.2.2.2.2.2.1) : Int) ≤ 32)) false, ()))))
 (j4 ((), ((v2.2.1.1, (v2.2.1.2.1, (v2.2.1.2.2.1, (v2.2.1.2.2.2.1, (v2.2.1.2.2.2.2.1, ([], ([], ()))))))), (false, ())))))
 (j4 ((), ((v2.2.1.1, (v2.2.1.2.1, (v2.2.1.2.2.1, (v2.2.1.2.2.2.1, (v2.2.1.2.2.2.2.1, ([], ([], ()))))))), (false, ())))))
 (kbr (x1.1.1 == 10)
 (kbnd (K23 ((Nat.cast (List.length x1.1.2.2.2.2.2.1) : Int), (1, (64, ()))) ()) fun a17 => kbr v2.2.2.1
 (j4 ((), ((v2.2.1.1, (v2.2.1.2.1, (v2.2.1.2.2.1, (v2.2.1.2.2.2.1, (v2.2.1.2.2.2.2.1, ([], (v2.2.1.2.2.2.2.2.2.1, ()))))))), (cond true a17.1.1 false, ()))))
 (j4 ((), ((v2.2.1.1, (v2.2.1.2.1, (v2.2.1.2.2.1, (v2.2.1.2.2.2.1, (v2.2.1.2.2.2.2.1, ([], (v2.2.1.2.2.2.2.2.2.1, ()))))))), (false, ())))))
 (some ((1, ()), ()))))
 (fun j18 => kbr (x1.1.1 == 8)
 (j18 (((x1.1.1 == 8), ()), ()))
 (j18 (((x1.1.1 == 9), ()), ()))))))))
 (fun j19 => kbr (x1.1.1 == 2)
 (j19 (((x1.1.1 == 2), ()), ()))
 (j19 (((x1.1.1 == 4), ()), ())))))
 (fun j20 => kbr (x1.1.1 == 1)
 (j20 (((x1.1.1 == 1), ()), ()))
 (j20 (((x1.1.1 == 3), ()), ())))))
 (fun j21 => kbnd (K23 (x1.1.1, (3, (10, ()))) ()) fun a22 => kbr a22.1.1
 (kbnd (K23 (x1.1.2.1, (1, (1099511627776, ()))) ()) fun a23 => kbr a23.1.1
 (kbnd (K23 (x1.1.2.2.1, (1, (1099511627776, ()))) ()) fun a24 => j21 ((), ((0, (0, (0, (x1.1.2.2.2.1, (x1.1.2.2.2.2.1, (x1.1.2.2.2.2.2.1, (x1.1.2.2.2.2.2.2.1, ()))))))), (cond true (cond true a24.1.1 false) false, ()))))
 (j21 ((), ((0, (0, (0, (x1.1.2.2.2.1, (x1.1.2.2.2.2.1, (x1.1.2.2.2.2.2.1, (x1.1.2.2.2.2.2.2.1, ()))))))), (false, ())))))
 (j21 ((), ((0, (x1.1.2.1, (x1.1.2.2.1, (x1.1.2.2.2.1, (x1.1.2.2.2.2.1, (x1.1.2.2.2.2.2.1, (x1.1.2.2.2.2.2.2.1, ()))))))), (true, ())))))
theorem kF12 (x0) (x1) : F12 x0 x1 = K12 x0 x1 := by
  unfold F12 K12
  (try simp only [bth_self]) <;> simp only [gdE_rfl, gdE_Tk, bnd_k, gd_k, br_k, jn_k, iter_k, bth_k, nlq_k, ob_k, kF23]
noncomputable def K13 (x0 : ((Int) × (Int) × (Int) × (List (BitVec 8)) × Unit) × (Int) × Unit) (x1 : Unit) : Option ((((Int) × (Int) × (Int) × (List (BitVec 8)) × Unit) × Unit) × Unit) :=
 kbr (x0.2.1 != 0)
 (some (((x0.2.1, (0, (0, ([], ())))), ()), ()))
 (some ((x0.1, ()), ()))
theorem kF13 (x0) (x1) : F13 x0 x1 = K13 x0 x1 := by
  unfold F13 K13
  (try simp only [bth_self]) <;> simp only [gdE_rfl, gdE_Tk, bnd_k, gd_k, br_k, jn_k, iter_k, bth_k, nlq_k, ob_k]
noncomputable def K14 (x0 : ((List ((Int) × (Int) × (Int) × ((Int) × (Int) × (Int) × (List (BitVec 8)) × Unit) × Unit)) × (Int) × Unit) × Unit) (x1 : Unit) : Option (((Int) × (Int) × Unit) × ((List ((Int) × (Int) × (Int) × ((Int) × (Int) × (Int) × (List (BitVec 8)) × Unit) × Unit)) × (Int) × Unit) × Unit) :=
 kbr (decide ((Nat.cast (List.length x0.1.1) : Int) ≥ 8))
 (some ((0, (134, ())), ((x0.1.1, (x0.1.2.1, ())), ())))
 (kbr (cond false true (decide (x0.1.2.1 ≥ 1099511627776)))
 (some ((0, (134, ())), ((x0.1.1, (x0.1.2.1, ())), ())))
 (some ((x0.1.2.1, (0, ())), ((mput x0.1.1 x0.1.2.1 (x0.1.2.1, (0, ((0, (0, (0, ([], ())))), ()))), (Go.SL.w64 (x0.1.2.1 + 1), ())), ()))))
theorem kF14 (x0) (x1) : F14 x0 x1 = K14 x0 x1 := by
  unfold F14 K14
  (try simp only [bth_self]) <;> simp only [gdE_rfl, gdE_Tk, bnd_k, gd_k, br_k, jn_k, iter_k, bth_k, nlq_k, ob_k]
noncomputable def K15 (x0 : ((List ((Int) × (Int) × (Int) × ((Int) × (Int) × (Int) × (List (BitVec 8)) × Unit) × Unit)) × (Int) × Unit) × (Int) × Unit) (x1 : Unit) : Option (((Int) × Unit) × ((List ((Int) × (Int) × (Int) × ((Int) × (Int) × (Int) × (List (BitVec 8)) × Unit) × Unit)) × (Int) × Unit) × Unit) :=
 kob (mget x0.1.1 x0.2.1) (kbr true
 (some ((150, ()), ((x0.1.1, (x0.1.2.1, ())), ())))
 (some ((0, ()), ((mdel x0.1.1 x0.2.1, (x0.1.2.1, ())), ())))) fun a2 => kbr false
 (some ((150, ()), ((x0.1.1, (x0.1.2.1, ())), ())))
 (some ((0, ()), ((mdel x0.1.1 x0.2.1, (x0.1.2.1, ())), ())))
theorem kF15 (x0) (x1) : F15 x0 x1 = K15 x0 x1 := by
  unfold F15 K15
  (try simp only [bth_self]) <;> simp only [gdE_rfl, gdE_Tk, bnd_k, gd_k, br_k, jn_k, iter_k, bth_k, nlq_k, ob_k]
noncomputable def K32 (x0 : Unit) (x1 : ((Int) × (Int) × (Int) × (List (BitVec 8)) × Unit) × Unit) : Option ((((Int) × (Int) × (Int) × (List (BitVec 8)) × Unit) × Unit) × Unit) :=
 kbnd (K45 () (x1.1.2.2.2.1, ())) fun a2 => some (((x1.1.1, (x1.1.2.1, (x1.1.2.2.1, (a2.1.1, ())))), ()), ())
theorem kF32 (x0) (x1) : F32 x0 x1 = K32 x0 x1 := by
  unfold F32 K32
  (try simp only [bth_self]) <;> simp only [gdE_rfl, gdE_Tk, bnd_k, gd_k, br_k, jn_k, iter_k, bth_k, nlq_k, ob_k, kF45]
noncomputable def K16 (x0 : ((List ((Int) × (Int) × (Int) × ((Int) × (Int) × (Int) × (List (BitVec 8)) × Unit) × Unit)) × (Int) × Unit) × (Int) × (Int) × Unit) (x1 : Unit) : Option ((((Int) × (Int) × (Int) × (List (BitVec 8)) × Unit) × (Bool) × (Int) × Unit) × ((List ((Int) × (Int) × (Int) × ((Int) × (Int) × (Int) × (List (BitVec 8)) × Unit) × Unit)) × (Int) × Unit) × Unit) :=
 kob (mget x0.1.1 x0.2.1) (kbr true
 (some (((0, (0, (0, ([], ())))), (false, (150, ()))), ((x0.1.1, (x0.1.2.1, ())), ())))
 (kbr (decide (x0.2.2.1 < 1))
 (some (((0, (0, (0, ([], ())))), (false, (151, ()))), ((x0.1.1, (x0.1.2.1, ())), ())))
 (kbr (x0.2.2.1 == 0)
 (kbnd (K32 () ((0, (0, (0, ([], ())))), ())) fun a2 => some ((a2.1.1, (true, (0, ()))), ((x0.1.1, (x0.1.2.1, ())), ())))
 (some (((0, (0, (0, ([], ())))), (false, (0, ()))), ((x0.1.1, (x0.1.2.1, ())), ())))))) fun a3 => kbr false
 (some (((0, (0, (0, ([], ())))), (false, (150, ()))), ((x0.1.1, (x0.1.2.1, ())), ())))
 (kbr (decide (x0.2.2.1 < imax 1 a3.2.1))
 (some (((0, (0, (0, ([], ())))), (false, (151, ()))), ((x0.1.1, (x0.1.2.1, ())), ())))
 (kbr (x0.2.2.1 == a3.2.1)
 (kbnd (K32 () (a3.2.2.1, ())) fun a4 => some ((a4.1.1, (true, (0, ()))), ((x0.1.1, (x0.1.2.1, ())), ())))
 (some (((0, (0, (0, ([], ())))), (false, (0, ()))), ((x0.1.1, (x0.1.2.1, ())), ())))))
theorem kF16 (x0) (x1) : F16 x0 x1 = K16 x0 x1 := by
  unfold F16 K16
  (try simp only [bth_self]) <;> simp only [gdE_rfl, gdE_Tk, bnd_k, gd_k, br_k, jn_k, iter_k, bth_k, nlq_k, ob_k, kF32]
noncomputable def K35 (x0 : ((List ((Bool) × (List ((List (BitVec 8)) × (Int) × (Bool) × Unit)) × Unit)) × Unit) × (List (BitVec 8)) × Unit) (x1 : Unit) : Option (((Int) × (Int) × Unit) × ((List ((Bool) × (List ((List (BitVec 8)) × (Int) × (Bool) × Unit)) × Unit)) × Unit) × Unit) :=
 kbr (decide ((Nat.cast (List.length x0.1.1) : Int) ≥ 8))
 (some ((0, (134, ())), ((x0.1.1, ()), ())))
 (kgd (few (List.length x0.1.1) (List.length (((false, (((x0.2.1, (0, (false, ()))) :: []), ())) :: []) : List ((Bool) × (List ((List (BitVec 8)) × (Int) × (Bool) × Unit)) × Unit)))) <| some (((Nat.cast (List.length ((x0.1.1 ++ ((false, (((x0.2.1, (0, (false, ()))) :: []), ())) :: [])) : List ((Bool) × (List ((List (BitVec 8)) × (Int) × (Bool) × Unit)) × Unit))) : Int), (0, ())), (((x0.1.1 ++ ((false, (((x0.2.1, (0, (false, ()))) :: []), ())) :: [])), ()), ())))
theorem kF35 (x0) (x1) : F35 x0 x1 = K35 x0 x1 := by
  unfold F35 K35
  (try simp only [bth_self]) <;> simp only [gdE_rfl, gdE_Tk, bnd_k, gd_k, br_k, jn_k, iter_k, bth_k, nlq_k, ob_k]
noncomputable def K37 (x0 : ((List ((Bool) × (List ((List (BitVec 8)) × (Int) × (Bool) × Unit)) × Unit)) × Unit) × (Int) × (List (BitVec 8)) × Unit) (x1 : Unit) : Option (((Int) × (Int) × Unit) × ((List ((Bool) × (List ((List (BitVec 8)) × (Int) × (Bool) × Unit)) × Unit)) × Unit) × Unit) :=
 kbr (decide (x0.2.1 < 1))
 (some ((0, (130, ())), (x0.1, ())))
 (kbr (cond false true (decide (x0.2.1 > (Nat.cast (List.length x0.1.1) : Int))))
 (some ((0, (130, ())), ((x0.1.1, ()), ())))
 (kgd (0 ≤ Go.SL.w64 (x0.2.1 - 1)) <| kgd (Int.toNat (Go.SL.w64 (x0.2.1 - 1)) < (List.length x0.1.1)) <| kbnd (x0.1.1[Int.toNat (Go.SL.w64 (x0.2.1 - 1))]?) fun a2 => kbr (decide ((Nat.cast (List.length a2.2.1) : Int) ≥ 4))
 (some ((0, (134, ())), ((List.set x0.1.1 (Int.toNat (Go.SL.w64 (x0.2.1 - 1))) (a2.1, (a2.2.1, ())), ()), ())))
 (kgd (Int.toNat (Go.SL.w64 (x0.2.1 - 1)) = Int.toNat (Go.SL.w64 (x0.2.1 - 1))) <| kgd (few (List.length a2.2.1) (List.length (((x0.2.2.1, (0, (false, ()))) :: []) : List ((List (BitVec 8)) × (Int) × (Bool) × Unit)))) <| kgd (Int.toNat (Go.SL.w64 (x0.2.1 - 1)) = Int.toNat (Go.SL.w64 (x0.2.1 - 1))) <| kgd (Int.toNat (Go.SL.w64 (x0.2.1 - 1)) = Int.toNat (Go.SL.w64 (x0.2.1 - 1))) <| some (((Nat.cast (List.length ((a2.2.1 ++ ((x0.2.2.1, (0, (false, ()))) :: [])) : List ((List (BitVec 8)) × (Int) × (Bool) × Unit))) : Int), (0, ())), ((List.set x0.1.1 (Int.toNat (Go.SL.w64 (x0.2.1 - 1))) (a2.1, ((a2.2.1 ++ ((x0.2.2.1, (0, (false, ()))) :: [])), ())), ()), ())))))
theorem kF37 (x0) (x1) : F37 x0 x1 = K37 x0 x1 := by
  unfold F37 K37
  (try simp only [bth_self]) <;> simp only [gdE_rfl, gdE_Tk, bnd_k, gd_k, br_k, jn_k, iter_k, bth_k, nlq_k, ob_k]
noncomputable def K38 (x0 : ((List ((Bool) × (List ((List (BitVec 8)) × (Int) × (Bool) × Unit)) × Unit)) × Unit) × (Int) × (Bool) × Unit) (x1 : Unit) : Option (((Int) × Unit) × ((List ((Bool) × (List ((List (BitVec 8)) × (Int) × (Bool) × Unit)) × Unit)) × Unit) × Unit) :=
 kbr (decide (x0.2.1 < 1))
 (some ((130, ()), (x0.1, ())))
 (kbr (cond false true (decide (x0.2.1 > (Nat.cast (List.length x0.1.1) : Int))))
 (some ((130, ()), ((x0.1.1, ()), ())))
 (kgd (0 ≤ Go.SL.w64 (x0.2.1 - 1)) <| kgd (Int.toNat (Go.SL.w64 (x0.2.1 - 1)) < (List.length x0.1.1)) <| kbnd (x0.1.1[Int.toNat (Go.SL.w64 (x0.2.1 - 1))]?) fun a2 => some ((0, ()), ((List.set x0.1.1 (Int.toNat (Go.SL.w64 (x0.2.1 - 1))) ((!x0.2.2.1), (a2.2.1, ())), ()), ()))))
theorem kF38 (x0) (x1) : F38 x0 x1 = K38 x0 x1 := by
  unfold F38 K38
  (try simp only [bth_self]) <;> simp only [gdE_rfl, gdE_Tk, bnd_k, gd_k, br_k, jn_k, iter_k, bth_k, nlq_k, ob_k]
noncomputable def K39 (x0 : ((List ((Bool) × (List ((List (BitVec 8)) × (Int) × (Bool) × Unit)) × Unit)) × Unit) × (Int) × (Int) × Unit) (x1 : Unit) : Option (((Int) × Unit) × ((List ((Bool) × (List ((List (BitVec 8)) × (Int) × (Bool) × Unit)) × Unit)) × Unit) × Unit) :=
 kbr (decide (x0.2.1 < 1))
 (some ((130, ()), (x0.1, ())))
 (kbr (cond false true (decide (x0.2.1 > (Nat.cast (List.length x0.1.1) : Int))))
 (some ((130, ()), ((x0.1.1, ()), ())))
 (kgd (0 ≤ Go.SL.w64 (x0.2.1 - 1)) <| kgd (Int.toNat (Go.SL.w64 (x0.2.1 - 1)) < (List.length x0.1.1)) <| kbr (cond false true (decide (x0.2.2.1 < 1)))
 (some ((130, ()), ((x0.1.1, ()), ())))
 (kbnd (x0.1.1[Int.toNat (Go.SL.w64 (x0.2.1 - 1))]?) fun a2 => kbr (cond false true (decide (x0.2.2.1 > (Nat.cast (List.length a2.2.1) : Int))))
 (some ((130, ()), ((List.set x0.1.1 (Int.toNat (Go.SL.w64 (x0.2.1 - 1))) (a2.1, (a2.2.1, ())), ()), ())))
 (kgd (Int.toNat (Go.SL.w64 (x0.2.1 - 1)) = Int.toNat (Go.SL.w64 (x0.2.1 - 1))) <| kgd (0 ≤ Go.SL.w64 (x0.2.2.1 - 1)) <| kgd (Int.toNat (Go.SL.w64 (x0.2.2.1 - 1)) < (List.length a2.2.1)) <| kbnd (a2.2.1[Int.toNat (Go.SL.w64 (x0.2.2.1 - 1))]?) fun a3 => kbr a3.2.2.1
 (some ((132, ()), ((List.set x0.1.1 (Int.toNat (Go.SL.w64 (x0.2.1 - 1))) (a2.1, (a2.2.1, ())), ()), ())))
 (kbnd (a2.2.1[Int.toNat (Go.SL.w64 (x0.2.2.1 - 1))]?) fun a4 => kbnd ((List.set a2.2.1 (Int.toNat (Go.SL.w64 (x0.2.2.1 - 1))) (a4.1, (a4.2.1, (true, a4.2.2.2))))[Int.toNat (Go.SL.w64 (x0.2.2.1 - 1))]?) fun a5 => some ((0, ()), ((List.set x0.1.1 (Int.toNat (Go.SL.w64 (x0.2.1 - 1))) (a2.1, (List.set (List.set a2.2.1 (Int.toNat (Go.SL.w64 (x0.2.2.1 - 1))) (a4.1, (a4.2.1, (true, a4.2.2.2)))) (Int.toNat (Go.SL.w64 (x0.2.2.1 - 1))) (List.replicate 32 0#8, a5.2), ())), ()), ())))))))
theorem kF39 (x0) (x1) : F39 x0 x1 = K39 x0 x1 := by
  unfold F39 K39
  (try simp only [bth_self]) <;> simp only [gdE_rfl, gdE_Tk, bnd_k, gd_k, br_k, jn_k, iter_k, bth_k, nlq_k, ob_k]
noncomputable def K49 (x0 : ((List ((Bool) × (List ((List (BitVec 8)) × (Int) × (Bool) × Unit)) × Unit)) × Unit) × (Int) × Unit) (x1 : Unit) : Option (((Int) × (Int) × (List (BitVec 8)) × (Int) × Unit) × ((List ((Bool) × (List ((List (BitVec 8)) × (Int) × (Bool) × Unit)) × Unit)) × Unit) × Unit) :=
 kbr (decide (x0.2.1 < 1))
 (some ((0, (0, (List.replicate 32 0#8, (130, ())))), (x0.1, ())))
 (kbr (cond false true (decide (x0.2.1 > (Nat.cast (List.length x0.1.1) : Int))))
 (some ((0, (0, (List.replicate 32 0#8, (130, ())))), ((x0.1.1, ()), ())))
 (kgd (0 ≤ Go.SL.w64 (x0.2.1 - 1)) <| kgd (Int.toNat (Go.SL.w64 (x0.2.1 - 1)) < (List.length x0.1.1)) <| kbnd (x0.1.1[Int.toNat (Go.SL.w64 (x0.2.1 - 1))]?) fun a2 => kgd (Int.toNat (Go.SL.w64 (x0.2.1 - 1)) = Int.toNat (Go.SL.w64 (x0.2.1 - 1))) <| kgd (0 ≤ Go.SL.w64 ((Nat.cast (List.length a2.2.1) : Int) - 1)) <| kgd (Int.toNat (Go.SL.w64 ((Nat.cast (List.length a2.2.1) : Int) - 1)) < (List.length a2.2.1)) <| kgd (Int.toNat (Go.SL.w64 (x0.2.1 - 1)) = Int.toNat (Go.SL.w64 (x0.2.1 - 1))) <| kbr a2.1
 (some ((0, (0, (List.replicate 32 0#8, (131, ())))), ((List.set x0.1.1 (Int.toNat (Go.SL.w64 (x0.2.1 - 1))) (a2.1, (a2.2.1, ())), ()), ())))
 (kbnd (a2.2.1[Int.toNat (Go.SL.w64 ((Nat.cast (List.length a2.2.1) : Int) - 1))]?) fun a3 => kbr a3.2.2.1
 (some ((0, (0, (List.replicate 32 0#8, (132, ())))), ((List.set x0.1.1 (Int.toNat (Go.SL.w64 (x0.2.1 - 1))) (a2.1, (a2.2.1, ())), ()), ())))
 (kbnd (a2.2.1[Int.toNat (Go.SL.w64 ((Nat.cast (List.length a2.2.1) : Int) - 1))]?) fun a4 => kbr (decide (a4.2.1 ≥ 16))
 (some ((0, (0, (List.replicate 32 0#8, (133, ())))), ((List.set x0.1.1 (Int.toNat (Go.SL.w64 (x0.2.1 - 1))) (a2.1, (a2.2.1, ())), ()), ())))
 (kbnd (a2.2.1[Int.toNat (Go.SL.w64 ((Nat.cast (List.length a2.2.1) : Int) - 1))]?) fun a5 => kbnd (a2.2.1[Int.toNat (Go.SL.w64 ((Nat.cast (List.length a2.2.1) : Int) - 1))]?) fun a6 => kgd (Int.toNat (Go.SL.w64 (x0.2.1 - 1)) = Int.toNat (Go.SL.w64 (x0.2.1 - 1))) <| kbnd ((List.set a2.2.1 (Int.toNat (Go.SL.w64 ((Nat.cast (List.length a2.2.1) : Int) - 1))) (a6.1, (Go.SL.w64 (a5.2.1 + 1), a6.2.2)))[Int.toNat (Go.SL.w64 ((Nat.cast (List.length a2.2.1) : Int) - 1))]?) fun a7 => kbnd ((List.set a2.2.1 (Int.toNat (Go.SL.w64 ((Nat.cast (List.length a2.2.1) : Int) - 1))) (a6.1, (Go.SL.w64 (a5.2.1 + 1), a6.2.2)))[Int.toNat (Go.SL.w64 ((Nat.cast (List.length a2.2.1) : Int) - 1))]?) fun a8 => some (((Nat.cast (List.length (List.set a2.2.1 (Int.toNat (Go.SL.w64 ((Nat.cast (List.length a2.2.1) : Int) - 1))) (a6.1, (Go.SL.w64 (a5.2.1 + 1), a6.2.2)))) : Int), (Go.SL.w64 (a7.2.1 - 1), (a8.1, (0, ())))), ((List.set x0.1.1 (Int.toNat (Go.SL.w64 (x0.2.1 - 1))) (a2.1, (List.set a2.2.1 (Int.toNat (Go.SL.w64 ((Nat.cast (List.length a2.2.1) : Int) - 1))) (a6.1, (Go.SL.w64 (a5.2.1 + 1), a6.2.2)), ())), ()), ())))))))
theorem kF49 (x0) (x1) : F49 x0 x1 = K49 x0 x1 := by
  unfold F49 K49
  (try simp only [bth_self]) <;> simp only [gdE_rfl, gdE_Tk, bnd_k, gd_k, br_k, jn_k, iter_k, bth_k, nlq_k, ob_k]
noncomputable def K75 (x0 : (BitVec 64) × Unit) (x1 : Unit) : Option (((Int) × Unit) × Unit) :=
 kjn (fun (v2 : ((Int) × (BitVec 64) × Unit) × Unit) => kjn (fun (v3 : ((Int) × (BitVec 64) × Unit) × Unit) => kbr (decide (BitVec.toNat v3.1.2.1 ≥ 256))
 (kbnd (([0#8, 1#8, 2#8, 2#8, 3#8, 3#8, 3#8, 3#8, 4#8, 4#8, 4#8, 4#8, 4#8, 4#8, 4#8, 4#8, 5#8, 5#8, 5#8, 5#8, 5#8, 5#8, 5#8, 5#8, 5#8, 5#8, 5#8, 5#8, 5#8, 5#8, 5#8, 5#8, 6#8, 6#8, 6#8, 6#8, 6#8, 6#8, 6#8, 6#8, 6#8, 6#8, 6#8, 6#8, 6#8, 6#8, 6#8, 6#8, 6#8, 6#8, 6#8, 6#8, 6#8, 6#8, 6#8, 6#8, 6#8, 6#8, 6#8, 6#8, 6#8, 6#8, 6#8, 6#8, 7#8, 7#8, 7#8, 7#8, 7#8, 7#8, 7#8, 7#8, 7#8, 7#8, 7#8, 7#8, 7#8, 7#8, 7#8, 7#8, 7#8, 7#8, 7#8, 7#8, 7#8, 7#8, 7#8, 7#8, 7#8, 7#8, 7#8, 7#8, 7#8, 7#8, 7#8, 7#8, 7#8, 7#8, 7#8, 7#8, 7#8, 7#8, 7#8, 7#8, 7#8, 7#8, 7#8, 7#8, 7#8, 7#8, 7#8, 7#8, 7#8, 7#8, 7#8, 7#8, 7#8, 7#8, 7#8, 7#8, 7#8, 7#8, 7#8, 7#8, 7#8, 7#8, 7#8, 7#8, 8#8, 8#8, 8#8, 8#8, 8#8, 8#8, 8#8, 8#8, 8#8, 8#8, 8#8, 8#8, 8#8, 8#8, 8#8, 8#8, 8#8, 8#8, 8#8, 8#8, 8#8, 8#8, 8#8, 8#8, 8#8, 8#8, 8#8, 8#8, 8#8, 8#8, 8#8, 8#8, 8#8, 8#8, 8#8, 8#8, 8#8, 8#8, 8#8, 8#8, 8#8, 8#8, 8#8, 8#8, 8#8, 8#8, 8#8, 8#8, 8#8, 8#8, 8#8, 8#8, 8#8, 8#8, 8#8, 8#8, 8#8, 8#8, 8#8, 8#8, 8#8, 8#8, 8#8, 8#8, 8#8, 8#8, 8#8, 8#8, 8#8, 8#8, 8#8, 8#8, 8#8, 8#8, 8#8, 8#8, 8#8, 8#8, 8#8, 8#8, 8#8, 8#8, 8#8, 8#8, 8#8, 8#8, 8#8, 8#8, 8#8, 8#8, 8#8, 8#8, 8#8, 8#8, 8#8, 8#8, 8#8, 8#8, 8#8, 8#8, 8#8, 8#8, 8#8, 8#8, 8#8, 8#8, 8#8, 8#8, 8#8, 8#8, 8#8, 8#8, 8#8, 8#8, 8#8, 8#8, 8#8, 8#8, 8#8, 8#8, 8#8, 8#8, 8#8, 8#8, 8#8, 8#8, 8#8, 8#8])[BitVec.toNat (BitVec.setWidth 8 (v3.1.2.1 >>> 8))]?) fun a4 => some ((Go.SL.w64 (Go.SL.w64 (v3.1.1 + 8) + (Nat.cast (BitVec.toNat a4) : Int)), ()), ()))
 (kbnd (([0#8, 1#8, 2#8, 2#8, 3#8, 3#8, 3#8, 3#8, 4#8, 4#8, 4#8, 4#8, 4#8, 4#8, 4#8, 4#8, 5#8, 5#8, 5#8, 5#8, 5#8, 5#8, 5#8, 5#8, 5#8, 5#8, 5#8, 5#8, 5#8, 5#8, 5#8, 5#8, 6#8, 6#8, 6#8, 6#8, 6#8, 6#8, 6#8, 6#8, 6#8, 6#8, 6#8, 6#8, 6#8, 6#8, 6#8, 6#8, 6#8, 6#8, 6#8, 6#8, 6#8, 6#8, 6#8, 6#8, 6#8, 6#8, 6#8, 6#8, 6#8, 6#8, 6#8, 6#8, 7#8, 7#8, 7#8, 7#8, 7#8, 7#8, 7#8, 7#8, 7#8, 7#8, 7#8, 7#8, 7#8, 7#8, 7#8, 7#8, 7#8, 7#8, 7#8, 7#8, 7#8, 7#8, 7#8, 7#8, 7#8, 7#8, 7#8, 7#8, 7#8, 7#8, 7#8, 7#8, 7#8, 7#8, 7#8, 7#8, 7#8, 7#8, 7#8, 7#8, 7#8, 7#8, 7#8, 7#8, 7#8, 7#8, 7#8, 7#8, 7#8, 7#8, 7#8, 7#8, 7#8, 7#8, 7#8, 7#8, 7#8, 7#8, 7#8, 7#8, 7#8, 7#8, 7#8, 7#8, 8#8, 8#8, 8#8, 8#8, 8#8, 8#8, 8#8, 8#8, 8#8, 8#8, 8#8, 8#8, 8#8, 8#8, 8#8, 8#8, 8#8, 8#8, 8#8, 8#8, 8#8, 8#8, 8#8, 8#8, 8#8, 8#8, 8#8, 8#8, 8#8, 8#8, 8#8, 8#8, 8#8, 8#8, 8#8, 8#8, 8#8, 8#8, 8#8, 8#8, 8#8, 8#8, 8#8, 8#8, 8#8, 8#8, 8#8, 8#8, 8#8, 8#8, 8#8, 8#8, 8#8, 8#8, 8#8, 8#8, 8#8, 8#8, 8#8, 8#8, 8#8, 8#8, 8#8, 8#8, 8#8, 8#8, 8#8, 8#8, 8#8, 8#8, 8#8, 8#8, 8#8, 8#8, 8#8, 8#8, 8#8, 8#8, 8#8, 8#8, 8#8, 8#8, 8#8, 8#8, 8#8, 8#8, 8#8, 8#8, 8#8, 8#8, 8#8, 8#8, 8#8, 8#8, 8#8, 8#8, 8#8, 8#8, 8#8, 8#8, 8#8, 8#8, 8#8, 8#8, 8#8, 8#8, 8#8, 8#8, 8#8, 8#8, 8#8, 8#8, 8#8, 8#8, 8#8, 8#8, 8#8, 8#8, 8#8, 8#8, 8#8, 8#8, 8#8, 8#8, 8#8, 8#8, 8#8, 8#8])[BitVec.toNat (BitVec.setWidth 8 v3.1.2.1)]?) fun a5 => some ((Go.SL.w64 (v3.1.1 + (Nat.cast (BitVec.toNat a5) : Int)), ()), ())))
 (fun j6 => kbr (decide (BitVec.toNat v2.1.2.1 ≥ 65536))
 (j6 ((Go.SL.w64 (v2.1.1 + 16), ((v2.1.2.1 >>> 16), ())), ()))
 (j6 ((v2.1.1, (v2.1.2.1, ())), ()))))
 (fun j7 => kbr (decide (BitVec.toNat x0.1 ≥ 4294967296))
 (j7 ((32, ((x0.1 >>> 32), ())), ()))
 (j7 ((0, (x0.1, ())), ())))
theorem kF75 (x0) (x1) : F75 x0 x1 = K75 x0 x1 := by
  unfold F75 K75
  (try simp only [bth_self]) <;> simp only [gdE_rfl, gdE_Tk, bnd_k, gd_k, br_k, jn_k, iter_k, bth_k, nlq_k, ob_k]
noncomputable def K63 (x0 : (BitVec 64) × Unit) (x1 : Unit) : Option (((Int) × Unit) × Unit) :=
 kbnd (K75 (x0.1, ()) ()) fun a2 => some ((a2.1.1, ()), ())
theorem kF63 (x0) (x1) : F63 x0 x1 = K63 x0 x1 := by
  unfold F63 K63
  (try simp only [bth_self]) <;> simp only [gdE_rfl, gdE_Tk, bnd_k, gd_k, br_k, jn_k, iter_k, bth_k, nlq_k, ob_k, kF75]
noncomputable def K57 (x0 : (Int) × Unit) (x1 : (List (BitVec 8)) × Unit) : Option (((List (BitVec 8)) × (Int) × Unit) × Unit) :=
 kbr (decide (x0.1 < 0))
 (some (([], (1, ())), ()))
 (kbnd (K63 (BitVec.ofInt 64 x0.1, ()) ()) fun a2 => kgd ((8 : Int) ≠ 0) <| kbnd (K45 () (x1.1, ())) fun a3 => kgd (few (List.length a3.1.1) (List.length ((BitVec.ofInt 8 (Go.SL.w64 (Int.tdiv (Go.SL.w64 (a2.1.1 + 7)) 8)) :: []) : List (BitVec 8)))) <| kiter (fun (v4 : ((Int) × (List (BitVec 8)) × Unit) × Unit) => fun r5 => kbr (decide (v4.1.1 ≥ 0))
 (kgd (0 ≤ Go.SL.w64 (8 * v4.1.1)) <| kgd (few (List.length v4.1.2.1) (List.length ((BitVec.ofInt 8 (Go.SL.ishr64 x0.1 (Int.toNat (Go.SL.w64 (8 * v4.1.1)))) :: []) : List (BitVec 8)))) <| r5 ((Go.SL.w64 (v4.1.1 - 1), ((v4.1.2.1 ++ (BitVec.ofInt 8 (Go.SL.ishr64 x0.1 (Int.toNat (Go.SL.w64 (8 * v4.1.1)))) :: [])), ())), ()))
 (some ((v4.1.2.1, (0, ())), ()))) ((Go.SL.w64 (Go.SL.w64 (Int.tdiv (Go.SL.w64 (a2.1.1 + 7)) 8) - 1), ((a3.1.1 ++ (BitVec.ofInt 8 (Go.SL.w64 (Int.tdiv (Go.SL.w64 (a2.1.1 + 7)) 8)) :: [])), ())), ()))
theorem kF57 (x0) (x1) : F57 x0 x1 = K57 x0 x1 := by
  unfold F57 K57
  (try simp only [bth_self]) <;> simp only [gdE_rfl, gdE_Tk, bnd_k, gd_k, br_k, jn_k, iter_k, bth_k, nlq_k, ob_k, kF45, kF63]
noncomputable def K50 (x0 : (Int) × (Int) × (List (BitVec 8)) × Unit) (x1 : (List (BitVec 8)) × Unit) : Option (((List (BitVec 8)) × Unit) × Unit) :=
 kbnd (K57 (x0.1, ()) ([], ())) fun a2 => kbnd (K57 (x0.2.1, ()) (a2.1.1, ())) fun a3 => kgd ((0 : Nat) ≤ 12) <| kgd ((12 : Nat) ≤ 12) <| kgd (12 ≤ (List.length x0.2.2.1)) <| kbnd (K58 () ((a3.1.1 :: (List.take 12 (List.drop 0 x0.2.2.1) :: (x1.1 :: []))), ())) fun a4 => some ((a4.1.1, ()), ())
theorem kF50 (x0) (x1) : F50 x0 x1 = K50 x0 x1 := by
  unfold F50 K50
  (try simp only [bth_self]) <;> simp only [gdE_rfl, gdE_Tk, bnd_k, gd_k, br_k, jn_k, iter_k, bth_k, nlq_k, ob_k, kF57, kF58]
noncomputable def K82 (x0 : (BitVec 8) × Unit) (x1 : Unit) : Option (((BitVec 8) × Unit) × Unit) :=
 kbnd (([99#8, 124#8, 119#8, 123#8, 242#8, 107#8, 111#8, 197#8, 48#8, 1#8, 103#8, 43#8, 254#8, 215#8, 171#8, 118#8, 202#8, 130#8, 201#8, 125#8, 250#8, 89#8, 71#8, 240#8, 173#8, 212#8, 162#8, 175#8, 156#8, 164#8, 114#8, 192#8, 183#8, 253#8, 147#8, 38#8, 54#8, 63#8, 247#8, 204#8, 52#8, 165#8, 229#8, 241#8, 113#8, 216#8, 49#8, 21#8, 4#8, 199#8, 35#8, 195#8, 24#8, 150#8, 5#8, 154#8, 7#8, 18#8, 128#8, 226#8, 235#8, 39#8, 178#8, 117#8, 9#8, 131#8, 44#8, 26#8, 27#8, 110#8, 90#8, 160#8, 82#8, 59#8, 214#8, 179#8, 41#8, 227#8, 47#8, 132#8, 83#8, 209#8, 0#8, 237#8, 32#8, 252#8, 177#8, 91#8, 106#8, 203#8, 190#8, 57#8, 74#8, 76#8, 88#8, 207#8, 208#8, 239#8, 170#8, 251#8, 67#8, 77#8, 51#8, 133#8, 69#8, 249#8, 2#8, 127#8, 80#8, 60#8, 159#8, 168#8, 81#8, 163#8, 64#8, 143#8, 146#8, 157#8, 56#8, 245#8, 188#8, 182#8, 218#8, 33#8, 16#8, 255#8, 243#8, 210#8, 205#8, 12#8, 19#8, 236#8, 95#8, 151#8, 68#8, 23#8, 196#8, 167#8, 126#8, 61#8, 100#8, 93#8, 25#8, 115#8, 96#8, 129#8, 79#8, 220#8, 34#8, 42#8, 144#8, 136#8, 70#8, 238#8, 184#8, 20#8, 222#8, 94#8, 11#8, 219#8, 224#8, 50#8, 58#8, 10#8, 73#8, 6#8, 36#8, 92#8, 194#8, 211#8, 172#8, 98#8, 145#8, 149#8, 228#8, 121#8, 231#8, 200#8, 55#8, 109#8, 141#8, 213#8, 78#8, 169#8, 108#8, 86#8, 244#8, 234#8, 101#8, 122#8, 174#8, 8#8, 186#8, 120#8, 37#8, 46#8, 28#8, 166#8, 180#8, 198#8, 232#8, 221#8, 116#8, 31#8, 75#8, 189#8, 139#8, 138#8, 112#8, 62#8, 181#8, 102#8, 72#8, 3#8, 246#8, 14#8, 97#8, 53#8, 87#8, 185#8, 134#8, 193#8, 29#8, 158#8, 225#8, 248#8, 152#8, 17#8, 105#8, 217#8, 142#8, 148#8, 155#8, 30#8, 135#8, 233#8, 206#8, 85#8, 40#8, 223#8, 140#8, 161#8, 137#8, 13#8, 191#8, 230#8, 66#8, 104#8, 65#8, 153#8, 45#8, 15#8, 176#8, 84#8, 187#8, 22#8])[BitVec.toNat x0.1]?) fun a2 => some ((a2, ()), ())
theorem kF82 (x0) (x1) : F82 x0 x1 = K82 x0 x1 := by
  unfold F82 K82
  (try simp only [bth_self]) <;> simp only [gdE_rfl, gdE_Tk, bnd_k, gd_k, br_k, jn_k, iter_k, bth_k, nlq_k, ob_k]
noncomputable def K76 (x0 : (List (BitVec 8)) × Unit) (x1 : Unit) : Option (((List (BitVec 8)) × Unit) × Unit) :=
 kgd ((0 : Int) ≤ 0) <| kgd ((0 : Nat) < 4) <| kbnd x0.1[0]? fun a2 => kgd ((0 : Int) ≤ 1) <| kgd ((1 : Nat) < 4) <| kbnd x0.1[1]? fun a3 => kgd ((0 : Int) ≤ 2) <| kgd ((2 : Nat) < 4) <| kbnd x0.1[2]? fun a4 => kgd ((0 : Int) ≤ 3) <| kgd ((3 : Nat) < 4) <| kbnd x0.1[3]? fun a5 => kbnd (K82 (a2, ()) ()) fun a6 => kbnd (K82 (a3, ()) ()) fun a7 => kbnd (K82 (a4, ()) ()) fun a8 => kbnd (K82 (a5, ()) ()) fun a9 => some ((List.set (List.set (List.set (List.set (List.replicate 4 0#8) 0 a6.1.1) 1 a7.1.1) 2 a8.1.1) 3 a9.1.1, ()), ())
theorem kF76 (x0) (x1) : F76 x0 x1 = K76 x0 x1 := by
  unfold F76 K76
  (try simp only [bth_self]) <;> simp only [gdE_rfl, gdE_Tk, bnd_k, gd_k, br_k, jn_k, iter_k, bth_k, nlq_k, ob_k, kF82]
noncomputable def K77 (x0 : (BitVec 8) × Unit) (x1 : Unit) : Option (((BitVec 8) × Unit) × Unit) :=
 some ((((x0.1 <<< 1) ^^^ (27#8 &&& (-(x0.1 >>> 7)))), ()), ())
theorem kF77 (x0) (x1) : F77 x0 x1 = K77 x0 x1 := by
  unfold F77 K77
  (try simp only [bth_self]) <;> simp only [gdE_rfl, gdE_Tk, bnd_k, gd_k, br_k, jn_k, iter_k, bth_k, nlq_k, ob_k]
noncomputable def K65 (x0 : Unit) (x1 : (List (BitVec 8)) × Unit) : Option (((List (List (BitVec 8))) × Unit) × Unit) :=
 kiter (fun (v2 : ((Int) × (BitVec 8) × Unit) × (List (List (BitVec 8))) × Unit) => fun r3 => kbr (decide (v2.1.1 < 60))
 (kbr (decide (v2.1.1 < 8))
 (kgd (0 ≤ Go.SL.w64 (4 * v2.1.1)) <| kgd (0 ≤ Go.SL.w64 (Go.SL.w64 (4 * v2.1.1) + 4)) <| kgd (Int.toNat (Go.SL.w64 (4 * v2.1.1)) ≤ Int.toNat (Go.SL.w64 (Go.SL.w64 (4 * v2.1.1) + 4))) <| kgd (Int.toNat (Go.SL.w64 (Go.SL.w64 (4 * v2.1.1) + 4)) ≤ 32) <| kgd (4 ≤ (List.length (List.drop (Int.toNat (Go.SL.w64 (4 * v2.1.1))) (List.take (Int.toNat (Go.SL.w64 (Go.SL.w64 (4 * v2.1.1) + 4))) x1.1)))) <| kgd (0 ≤ v2.1.1) <| kgd (Int.toNat v2.1.1 < 60) <| kgd (Int.toNat v2.1.1 < (List.length v2.2.1)) <| r3 ((Go.SL.w64 (v2.1.1 + 1), (v2.1.2.1, ())), (List.set v2.2.1 (Int.toNat v2.1.1) (List.take 4 (List.drop (Int.toNat (Go.SL.w64 (4 * v2.1.1))) (List.take (Int.toNat (Go.SL.w64 (Go.SL.w64 (4 * v2.1.1) + 4))) x1.1))), ())))
 (kgd (0 ≤ Go.SL.w64 (v2.1.1 - 1)) <| kgd (Int.toNat (Go.SL.w64 (v2.1.1 - 1)) < 60) <| kbnd (v2.2.1[Int.toNat (Go.SL.w64 (v2.1.1 - 1))]?) fun a4 => kjn (fun (v5 : ((BitVec 8) × Unit) × (List (BitVec 8)) × Unit) => kiter (fun (v6 : ((Int) × Unit) × (List (BitVec 8)) × Unit) => fun r7 => kbr (decide (v6.1.1 < 4))
 (kgd (0 ≤ v6.1.1) <| kgd (Int.toNat v6.1.1 < 4) <| kbnd (v6.2.1[Int.toNat v6.1.1]?) fun a8 => kgd (0 ≤ Go.SL.w64 (v2.1.1 - 8)) <| kgd (Int.toNat (Go.SL.w64 (v2.1.1 - 8)) < 60) <| kgd (0 ≤ v6.1.1) <| kgd (Int.toNat v6.1.1 < 4) <| kbnd (v2.2.1[Int.toNat (Go.SL.w64 (v2.1.1 - 8))]?) fun a9 => kbnd (a9[Int.toNat v6.1.1]?) fun a10 => kgd (0 ≤ v6.1.1) <| kgd (Int.toNat v6.1.1 < 4) <| kgd (Int.toNat v6.1.1 < (List.length v6.2.1)) <| r7 ((Go.SL.w64 (v6.1.1 + 1), ()), (List.set v6.2.1 (Int.toNat v6.1.1) (a8 ^^^ a10), ())))
 (kgd (0 ≤ v2.1.1) <| kgd (Int.toNat v2.1.1 < 60) <| kgd (Int.toNat v2.1.1 < (List.length v2.2.1)) <| r3 ((Go.SL.w64 (v2.1.1 + 1), (v5.1.1, ())), (List.set v2.2.1 (Int.toNat v2.1.1) v6.2.1, ())))) ((0, ()), (v5.2.1, ())))
 (fun j11 => kgd ((8 : Int) ≠ 0) <| kbr (Int.tmod v2.1.1 8 == 0)
 (kgd ((0 : Int) ≤ 1) <| kgd ((1 : Nat) < 4) <| kbnd a4[1]? fun a12 => kgd ((0 : Int) ≤ 2) <| kgd ((2 : Nat) < 4) <| kbnd a4[2]? fun a13 => kgd ((0 : Int) ≤ 3) <| kgd ((3 : Nat) < 4) <| kbnd a4[3]? fun a14 => kgd ((0 : Int) ≤ 0) <| kgd ((0 : Nat) < 4) <| kbnd a4[0]? fun a15 => kbnd (K76 (List.set (List.set (List.set (List.set (List.replicate 4 0#8) 0 a12) 1 a13) 2 a14) 3 a15, ()) ()) fun a16 => kgd ((0 : Int) ≤ 0) <| kgd ((0 : Nat) < 4) <| kbnd a16.1.1[0]? fun a17 => kgd ((0 : Int) ≤ 0) <| kgd ((0 : Nat) < 4) <| kgd (0 < (List.length a16.1.1)) <| kbnd (K77 (v2.1.2.1, ()) ()) fun a18 => j11 ((a18.1.1, ()), (List.set a16.1.1 0 (a17 ^^^ v2.1.2.1), ())))
 (kbr (Int.tmod v2.1.1 8 == 4)
 (kbnd (K76 (a4, ()) ()) fun a19 => j11 ((v2.1.2.1, ()), (a19.1.1, ())))
 (j11 ((v2.1.2.1, ()), (a4, ())))))))
 (kiter (fun (v20 : ((Int) × Unit) × (List (List (BitVec 8))) × Unit) => fun r21 => kbr (decide (v20.1.1 < 60))
 (kgd (0 ≤ v20.1.1) <| kbnd (v2.2.1[Int.toNat v20.1.1]?) fun a22 => kgd ((4 : Int) ≠ 0) <| kgd (0 ≤ Go.SL.w64 (Int.tdiv v20.1.1 4)) <| kgd (Int.toNat (Go.SL.w64 (Int.tdiv v20.1.1 4)) < 15) <| kgd ((4 : Int) ≠ 0) <| kgd (0 ≤ Go.SL.w64 (4 * Int.tmod v20.1.1 4)) <| kgd (Int.toNat (Go.SL.w64 (4 * Int.tmod v20.1.1 4)) ≤ 16) <| kgd ((16 : Nat) ≤ 16) <| kgd ((0 : Nat) ≤ 4) <| kgd ((4 : Nat) ≤ 4) <| kgd (4 ≤ (List.length a22)) <| kgd (0 < (16 - Int.toNat (Go.SL.w64 (4 * Int.tmod v20.1.1 4)))) <| kbnd (v20.2.1[Int.toNat (Go.SL.w64 (Int.tdiv v20.1.1 4))]?) fun a23 => kgd ((Int.toNat (Go.SL.w64 (4 * Int.tmod v20.1.1 4)) + (16 - Int.toNat (Go.SL.w64 (4 * Int.tmod v20.1.1 4)))) ≤ (List.length a23)) <| kgd (Int.toNat (Go.SL.w64 (Int.tdiv v20.1.1 4)) < (List.length v20.2.1)) <| r21 ((Go.SL.w64 (v20.1.1 + 1), ()), (List.set v20.2.1 (Int.toNat (Go.SL.w64 (Int.tdiv v20.1.1 4))) (ovl a23 (Int.toNat (Go.SL.w64 (4 * Int.tmod v20.1.1 4))) (List.take (16 - Int.toNat (Go.SL.w64 (4 * Int.tmod v20.1.1 4))) (List.take 4 (List.drop 0 a22)))), ())))
 (some ((v20.2.1, ()), ()))) ((0, ()), (List.replicate 15 (0#8 :: List.replicate 15 0#8), ())))) ((0, (1#8, ())), (List.replicate 60 (0#8 :: List.replicate 3 0#8), ()))
theorem kF65 (x0) (x1) : F65 x0 x1 = K65 x0 x1 := by
  unfold F65 K65
  (try simp only [bth_self]) <;> simp only [gdE_rfl, gdE_Tk, bnd_k, gd_k, br_k, jn_k, iter_k, bth_k, nlq_k, ob_k, kF76, kF77]
noncomputable def K66 (x0 : (List (BitVec 8)) × (BitVec 32) × Unit) (x1 : Unit) : Option (((List (BitVec 8)) × Unit) × Unit) :=
 kgd ((0 : Nat) ≤ 16) <| kgd ((16 : Nat) ≤ 16) <| kgd ((0 : Nat) ≤ 12) <| kgd ((12 : Nat) ≤ 12) <| kgd (12 ≤ (List.length x0.1)) <| kgd ((0 : Nat) < 16) <| kgd ((16 : Nat) ≤ 16) <| kgd ((0 : Int) ≤ 12) <| kgd ((12 : Nat) < 16) <| kgd (12 < (List.length (ovl (List.replicate 16 0#8) 0 (List.take 16 (List.take 12 (List.drop 0 x0.1)))))) <| kgd ((0 : Int) ≤ 13) <| kgd ((13 : Nat) < 16) <| kgd (13 < (List.length (List.set (ovl (List.replicate 16 0#8) 0 (List.take 16 (List.take 12 (List.drop 0 x0.1)))) 12 (BitVec.setWidth 8 (x0.2.1 >>> 24))))) <| kgd ((0 : Int) ≤ 14) <| kgd ((14 : Nat) < 16) <| kgd (14 < (List.length (List.set (List.set (ovl (List.replicate 16 0#8) 0 (List.take 16 (List.take 12 (List.drop 0 x0.1)))) 12 (BitVec.setWidth 8 (x0.2.1 >>> 24))) 13 (BitVec.setWidth 8 (x0.2.1 >>> 16))))) <| kgd ((0 : Int) ≤ 15) <| kgd ((15 : Nat) < 16) <| kgd (15 < (List.length (List.set (List.set (List.set (ovl (List.replicate 16 0#8) 0 (List.take 16 (List.take 12 (List.drop 0 x0.1)))) 12 (BitVec.setWidth 8 (x0.2.1 >>> 24))) 13 (BitVec.setWidth 8 (x0.2.1 >>> 16))) 14 (BitVec.setWidth 8 (x0.2.1 >>> 8))))) <| some ((List.set (List.set (List.set (List.set (ovl (List.replicate 16 0#8) 0 (List.take 16 (List.take 12 (List.drop 0 x0.1)))) 12 (BitVec.setWidth 8 (x0.2.1 >>> 24))) 13 (BitVec.setWidth 8 (x0.2.1 >>> 16))) 14 (BitVec.setWidth 8 (x0.2.1 >>> 8))) 15 (BitVec.setWidth 8 x0.2.1), ()), ())
theorem kF66 (x0) (x1) : F66 x0 x1 = K66 x0 x1 := by
  unfold F66 K66
  (try simp only [bth_self]) <;> simp only [gdE_rfl, gdE_Tk, bnd_k, gd_k, br_k, jn_k, iter_k, bth_k, nlq_k, ob_k]
noncomputable def K67 (x0 : (List (BitVec 8)) × Unit) (x1 : Unit) : Option (((List (BitVec 8)) × Unit) × Unit) :=
 kgd ((0 : Int) ≤ 12) <| kgd ((12 : Nat) < 16) <| kbnd x0.1[12]? fun a2 => kgd ((0 : Int) ≤ 13) <| kgd ((13 : Nat) < 16) <| kbnd x0.1[13]? fun a3 => kgd ((0 : Int) ≤ 14) <| kgd ((14 : Nat) < 16) <| kbnd x0.1[14]? fun a4 => kgd ((0 : Int) ≤ 15) <| kgd ((15 : Nat) < 16) <| kbnd x0.1[15]? fun a5 => kgd ((0 : Int) ≤ 12) <| kgd ((12 : Nat) < 16) <| kgd (12 < (List.length x0.1)) <| kgd ((0 : Int) ≤ 13) <| kgd ((13 : Nat) < 16) <| kgd (13 < (List.length (List.set x0.1 12 (BitVec.setWidth 8 ((((((BitVec.setWidth 32 a2 <<< 24) ||| (BitVec.setWidth 32 a3 <<< 16)) ||| (BitVec.setWidth 32 a4 <<< 8)) ||| BitVec.setWidth 32 a5) + 1#32) >>> 24))))) <| kgd ((0 : Int) ≤ 14) <| kgd ((14 : Nat) < 16) <| kgd (14 < (List.length (List.set (List.set x0.1 12 (BitVec.setWidth 8 ((((((BitVec.setWidth 32 a2 <<< 24) ||| (BitVec.setWidth 32 a3 <<< 16)) ||| (BitVec.setWidth 32 a4 <<< 8)) ||| BitVec.setWidth 32 a5) + 1#32) >>> 24))) 13 (BitVec.setWidth 8 ((((((BitVec.setWidth 32 a2 <<< 24) ||| (BitVec.setWidth 32 a3 <<< 16)) ||| (BitVec.setWidth 32 a4 <<< 8)) ||| BitVec.setWidth 32 a5) + 1#32) >>> 16))))) <| kgd ((0 : Int) ≤ 15) <| kgd ((15 : Nat) < 16) <| kgd (15 < (List.length (List.set (List.set (List.set x0.1 12 (BitVec.setWidth 8 ((((((BitVec.setWidth 32 a2 <<< 24) ||| (BitVec.setWidth 32 a3 <<< 16)) ||| (BitVec.setWidth 32 a4 <<< 8)) ||| BitVec.setWidth 32 a5) + 1#32) >>> 24))) 13 (BitVec.setWidth 8 ((((((BitVec.setWidth 32 a2 <<< 24) ||| (BitVec.setWidth 32 a3 <<< 16)) ||| (BitVec.setWidth 32 a4 <<< 8)) ||| BitVec.setWidth 32 a5) + 1#32) >>> 16))) 14 (BitVec.setWidth 8 ((((((BitVec.setWidth 32 a2 <<< 24) ||| (BitVec.setWidth 32 a3 <<< 16)) ||| (BitVec.setWidth 32 a4 <<< 8)) ||| BitVec.setWidth 32 a5) + 1#32) >>> 8))))) <| some ((List.set (List.set (List.set (List.set x0.1 12 (BitVec.setWidth 8 ((((((BitVec.setWidth 32 a2 <<< 24) ||| (BitVec.setWidth 32 a3 <<< 16)) ||| (BitVec.setWidth 32 a4 <<< 8)) ||| BitVec.setWidth 32 a5) + 1#32) >>> 24))) 13 (BitVec.setWidth 8 ((((((BitVec.setWidth 32 a2 <<< 24) ||| (BitVec.setWidth 32 a3 <<< 16)) ||| (BitVec.setWidth 32 a4 <<< 8)) ||| BitVec.setWidth 32 a5) + 1#32) >>> 16))) 14 (BitVec.setWidth 8 ((((((BitVec.setWidth 32 a2 <<< 24) ||| (BitVec.setWidth 32 a3 <<< 16)) ||| (BitVec.setWidth 32 a4 <<< 8)) ||| BitVec.setWidth 32 a5) + 1#32) >>> 8))) 15 (BitVec.setWidth 8 (((((BitVec.setWidth 32 a2 <<< 24) ||| (BitVec.setWidth 32 a3 <<< 16)) ||| (BitVec.setWidth 32 a4 <<< 8)) ||| BitVec.setWidth 32 a5) + 1#32)), ()), ())
theorem kF67 (x0) (x1) : F67 x0 x1 = K67 x0 x1 := by
  unfold F67 K67
  (try simp only [bth_self]) <;> simp only [gdE_rfl, gdE_Tk, bnd_k, gd_k, br_k, jn_k, iter_k, bth_k, nlq_k, ob_k]
noncomputable def K70 (x0 : (List (BitVec 8)) × (List (BitVec 8)) × Unit) (x1 : Unit) : Option (((List (BitVec 8)) × Unit) × Unit) :=
 kiter (fun (v2 : ((Int) × Unit) × (List (BitVec 8)) × Unit) => fun r3 => kbr (decide (v2.1.1 < 16))
 (kgd (0 ≤ v2.1.1) <| kgd (Int.toNat v2.1.1 < 16) <| kbnd (v2.2.1[Int.toNat v2.1.1]?) fun a4 => kgd (0 ≤ v2.1.1) <| kgd (Int.toNat v2.1.1 < 16) <| kbnd (x0.2.1[Int.toNat v2.1.1]?) fun a5 => kgd (0 ≤ v2.1.1) <| kgd (Int.toNat v2.1.1 < 16) <| kgd (Int.toNat v2.1.1 < (List.length v2.2.1)) <| r3 ((Go.SL.w64 (v2.1.1 + 1), ()), (List.set v2.2.1 (Int.toNat v2.1.1) (a4 ^^^ a5), ())))
 (some ((v2.2.1, ()), ()))) ((0, ()), (x0.1, ()))
theorem kF70 (x0) (x1) : F70 x0 x1 = K70 x0 x1 := by
  unfold F70 K70
  (try simp only [bth_self]) <;> simp only [gdE_rfl, gdE_Tk, bnd_k, gd_k, br_k, jn_k, iter_k, bth_k, nlq_k, ob_k]
noncomputable def K83 (x0 : (List (BitVec 8)) × Unit) (x1 : Unit) : Option (((List (BitVec 8)) × Unit) × Unit) :=
 kgd ((0 : Int) ≤ 0) <| kgd ((0 : Nat) < 4) <| kbnd x0.1[0]? fun a2 => kgd ((0 : Int) ≤ 1) <| kgd ((1 : Nat) < 4) <| kbnd x0.1[1]? fun a3 => kgd ((0 : Int) ≤ 2) <| kgd ((2 : Nat) < 4) <| kbnd x0.1[2]? fun a4 => kgd ((0 : Int) ≤ 3) <| kgd ((3 : Nat) < 4) <| kbnd x0.1[3]? fun a5 => kiter (fun (v6 : ((Int) × Unit) × (List (BitVec 8)) × Unit) => fun r7 => kbr (decide (v6.1.1 < 4))
 (kgd (0 ≤ v6.1.1) <| kgd (Int.toNat v6.1.1 < 4) <| kbnd (x0.1[Int.toNat v6.1.1]?) fun a8 => kgd (0 ≤ v6.1.1) <| kgd (Int.toNat v6.1.1 < 4) <| kbnd (x0.1[Int.toNat v6.1.1]?) fun a9 => kgd ((4 : Int) ≠ 0) <| kgd (0 ≤ Int.tmod (Go.SL.w64 (v6.1.1 + 1)) 4) <| kgd (Int.toNat (Int.tmod (Go.SL.w64 (v6.1.1 + 1)) 4) < 4) <| kbnd (x0.1[Int.toNat (Int.tmod (Go.SL.w64 (v6.1.1 + 1)) 4)]?) fun a10 => kbnd (K77 ((a9 ^^^ a10), ()) ()) fun a11 => kgd (0 ≤ v6.1.1) <| kgd (Int.toNat v6.1.1 < 4) <| kgd (Int.toNat v6.1.1 < (List.length v6.2.1)) <| r7 ((Go.SL.w64 (v6.1.1 + 1), ()), (List.set v6.2.1 (Int.toNat v6.1.1) ((a8 ^^^ (((a2 ^^^ a3) ^^^ a4) ^^^ a5)) ^^^ a11.1.1), ())))
 (some ((v6.2.1, ()), ()))) ((0, ()), (List.replicate 4 0#8, ()))
theorem kF83 (x0) (x1) : F83 x0 x1 = K83 x0 x1 := by
  unfold F83 K83
  (try simp only [bth_self]) <;> simp only [gdE_rfl, gdE_Tk, bnd_k, gd_k, br_k, jn_k, iter_k, bth_k, nlq_k, ob_k, kF77]
noncomputable def K78 (x0 : (List (BitVec 8)) × (List (BitVec 8)) × (Bool) × Unit) (x1 : Unit) : Option (((List (BitVec 8)) × Unit) × Unit) :=
 kiter (fun (v2 : ((Int) × Unit) × (List (BitVec 8)) × Unit) => fun r3 => kbr (decide (v2.1.1 < 4))
 (kiter (fun (v4 : ((Int) × Unit) × (List (BitVec 8)) × Unit) => fun r5 => kbr (decide (v4.1.1 < 4))
 (kgd ((16 : Int) ≠ 0) <| kgd (0 ≤ Int.tmod (Go.SL.w64 (Go.SL.w64 (4 * Go.SL.w64 (v2.1.1 + v4.1.1)) + v4.1.1)) 16) <| kgd (Int.toNat (Int.tmod (Go.SL.w64 (Go.SL.w64 (4 * Go.SL.w64 (v2.1.1 + v4.1.1)) + v4.1.1)) 16) < 16) <| kbnd (x0.1[Int.toNat (Int.tmod (Go.SL.w64 (Go.SL.w64 (4 * Go.SL.w64 (v2.1.1 + v4.1.1)) + v4.1.1)) 16)]?) fun a6 => kbnd (K82 (a6, ()) ()) fun a7 => kgd (0 ≤ v4.1.1) <| kgd (Int.toNat v4.1.1 < 4) <| kgd (Int.toNat v4.1.1 < (List.length v4.2.1)) <| r5 ((Go.SL.w64 (v4.1.1 + 1), ()), (List.set v4.2.1 (Int.toNat v4.1.1) a7.1.1, ())))
 (kjn (fun (v8 : (Unit) × (List (BitVec 8)) × Unit) => kiter (fun (v9 : ((Int) × Unit) × (List (BitVec 8)) × Unit) => fun r10 => kbr (decide (v9.1.1 < 4))
 (kgd (0 ≤ v9.1.1) <| kgd (Int.toNat v9.1.1 < 4) <| kbnd (v8.2.1[Int.toNat v9.1.1]?) fun a11 => kgd (0 ≤ Go.SL.w64 (Go.SL.w64 (4 * v2.1.1) + v9.1.1)) <| kgd (Int.toNat (Go.SL.w64 (Go.SL.w64 (4 * v2.1.1) + v9.1.1)) < 16) <| kbnd (x0.2.1[Int.toNat (Go.SL.w64 (Go.SL.w64 (4 * v2.1.1) + v9.1.1))]?) fun a12 => kgd (0 ≤ Go.SL.w64 (Go.SL.w64 (4 * v2.1.1) + v9.1.1)) <| kgd (Int.toNat (Go.SL.w64 (Go.SL.w64 (4 * v2.1.1) + v9.1.1)) < 16) <| kgd (Int.toNat (Go.SL.w64 (Go.SL.w64 (4 * v2.1.1) + v9.1.1)) < (List.length v9.2.1)) <| r10 ((Go.SL.w64 (v9.1.1 + 1), ()), (List.set v9.2.1 (Int.toNat (Go.SL.w64 (Go.SL.w64 (4 * v2.1.1) + v9.1.1))) (a11 ^^^ a12), ())))
 (r3 ((Go.SL.w64 (v2.1.1 + 1), ()), (v9.2.1, ())))) ((0, ()), (v2.2.1, ())))
 (fun j13 => kbr (!x0.2.2.1)
 (kbnd (K83 (v4.2.1, ()) ()) fun a14 => j13 ((), (a14.1.1, ())))
 (j13 ((), (v4.2.1, ())))))) ((0, ()), (List.replicate 4 0#8, ())))
 (some ((v2.2.1, ()), ()))) ((0, ()), (List.replicate 16 0#8, ()))
theorem kF78 (x0) (x1) : F78 x0 x1 = K78 x0 x1 := by
  unfold F78 K78
  (try simp only [bth_self]) <;> simp only [gdE_rfl, gdE_Tk, bnd_k, gd_k, br_k, jn_k, iter_k, bth_k, nlq_k, ob_k, kF82, kF83]
noncomputable def K68 (x0 : (List (List (BitVec 8))) × (List (BitVec 8)) × Unit) (x1 : Unit) : Option (((List (BitVec 8)) × Unit) × (List (List (BitVec 8))) × Unit) :=
 kgd ((0 : Int) ≤ 0) <| kgd ((0 : Nat) < 15) <| kbnd x0.1[0]? fun a2 => kbnd (K70 (x0.2.1, (a2, ())) ()) fun a3 => kiter (fun (v4 : ((Int) × Unit) × (List (BitVec 8)) × Unit) => fun r5 => kbr (decide (v4.1.1 < 15))
 (kgd (0 ≤ v4.1.1) <| kgd (Int.toNat v4.1.1 < 15) <| kbnd (x0.1[Int.toNat v4.1.1]?) fun a6 => kbnd (K78 (v4.2.1, (a6, ((v4.1.1 == 14), ()))) ()) fun a7 => r5 ((Go.SL.w64 (v4.1.1 + 1), ()), (a7.1.1, ())))
 (some ((v4.2.1, ()), (x0.1, ())))) ((1, ()), (a3.1.1, ()))
theorem kF68 (x0) (x1) : F68 x0 x1 = K68 x0 x1 := by
  unfold F68 K68
  (try simp only [bth_self]) <;> simp only [gdE_rfl, gdE_Tk, bnd_k, gd_k, br_k, jn_k, iter_k, bth_k, nlq_k, ob_k, kF70, kF78]
noncomputable def K59 (x0 : (List (BitVec 8)) × (List (BitVec 8)) × (BitVec 32) × Unit) (x1 : (List (BitVec 8)) × Unit) : Option (((List (BitVec 8)) × Unit) × Unit) :=
 kbnd (K65 () (x0.1, ())) fun a2 => kbnd (K45 () (x1.1, ())) fun a3 => kbnd (K66 (x0.2.1, (x0.2.2.1, ())) ()) fun a4 => kiter (fun (v5 : ((Int) × Unit) × (List (BitVec 8)) × (List (BitVec 8)) × (List (List (BitVec 8))) × Unit) => fun r6 => kbr (decide (v5.1.1 < (Nat.cast (List.length a3.1.1) : Int)))
 (kgd ((16 : Int) ≠ 0) <| kbr (Int.tmod v5.1.1 16 == 0)
 (kbr (cond true (decide (v5.1.1 > 0)) false)
 (kbnd (K67 (v5.2.1, ()) ()) fun a7 => kgd ((16 : Int) ≠ 0) <| kbr (Int.tmod v5.1.1 16 == 0)
 (kbnd (K68 (v5.2.2.2.1, (a7.1.1, ())) ()) fun a8 => kgd (0 ≤ v5.1.1) <| kgd (0 ≤ imin (Go.SL.w64 (v5.1.1 + 16)) (Nat.cast (List.length v5.2.2.1) : Int)) <| kgd (Int.toNat v5.1.1 ≤ Int.toNat (imin (Go.SL.w64 (v5.1.1 + 16)) (Nat.cast (List.length v5.2.2.1) : Int))) <| kgd (Int.toNat (imin (Go.SL.w64 (v5.1.1 + 16)) (Nat.cast (List.length v5.2.2.1) : Int)) ≤ (List.length v5.2.2.1)) <| kiter (fun (v9 : ((Int) × Unit) × (List (BitVec 8)) × Unit) => fun r10 => kbr (decide (v9.1.1 < (Nat.cast (Int.toNat (imin (Go.SL.w64 (v5.1.1 + 16)) (Nat.cast (List.length v5.2.2.1) : Int)) - Int.toNat v5.1.1) : Int)))
 (kgd (0 ≤ v9.1.1) <| kgd (Int.toNat v9.1.1 < (Int.toNat (imin (Go.SL.w64 (v5.1.1 + 16)) (Nat.cast (List.length v5.2.2.1) : Int)) - Int.toNat v5.1.1)) <| kbnd (v9.2.1[(Int.toNat v5.1.1 + Int.toNat v9.1.1)]?) fun a11 => kgd (0 ≤ v9.1.1) <| kgd (Int.toNat v9.1.1 < 16) <| kbnd (a8.1.1[Int.toNat v9.1.1]?) fun a12 => kgd (0 ≤ v9.1.1) <| kgd (Int.toNat v9.1.1 < (Int.toNat (imin (Go.SL.w64 (v5.1.1 + 16)) (Nat.cast (List.length v5.2.2.1) : Int)) - Int.toNat v5.1.1)) <| kgd ((Int.toNat v5.1.1 + Int.toNat v9.1.1) < (List.length v9.2.1)) <| r10 ((Go.SL.w64 (v9.1.1 + 1), ()), (List.set v9.2.1 (Int.toNat v5.1.1 + Int.toNat v9.1.1) (a11 ^^^ a12), ())))
 (r6 ((Go.SL.w64 (v5.1.1 + 1), ()), (a7.1.1, (v9.2.1, (a8.2.1, ())))))) ((0, ()), (v5.2.2.1, ())))
 (r6 ((Go.SL.w64 (v5.1.1 + 1), ()), (a7.1.1, (v5.2.2.1, (v5.2.2.2.1, ()))))))
 (kgd ((16 : Int) ≠ 0) <| kbr (Int.tmod v5.1.1 16 == 0)
 (kbnd (K68 (v5.2.2.2.1, (v5.2.1, ())) ()) fun a13 => kgd (0 ≤ v5.1.1) <| kgd (0 ≤ imin (Go.SL.w64 (v5.1.1 + 16)) (Nat.cast (List.length v5.2.2.1) : Int)) <| kgd (Int.toNat v5.1.1 ≤ Int.toNat (imin (Go.SL.w64 (v5.1.1 + 16)) (Nat.cast (List.length v5.2.2.1) : Int))) <| kgd (Int.toNat (imin (Go.SL.w64 (v5.1.1 + 16)) (Nat.cast (List.length v5.2.2.1) : Int)) ≤ (List.length v5.2.2.1)) <| kiter (fun (v14 : ((Int) × Unit) × (List (BitVec 8)) × Unit) => fun r15 => kbr (decide (v14.1.1 < (Nat.cast (Int.toNat (imin (Go.SL.w64 (v5.1.1 + 16)) (Nat.cast (List.length v5.2.2.1) : Int)) - Int.toNat v5.1.1) : Int)))
 (kgd (0 ≤ v14.1.1) <| kgd (Int.toNat v14.1.1 < (Int.toNat (imin (Go.SL.w64 (v5.1.1 + 16)) (Nat.cast (List.length v5.2.2.1) : Int)) - Int.toNat v5.1.1)) <| kbnd (v14.2.1[(Int.toNat v5.1.1 + Int.toNat v14.1.1)]?) fun a16 => kgd (0 ≤ v14.1.1) <| kgd (Int.toNat v14.1.1 < 16) <| kbnd (a13.1.1[Int.toNat v14.1.1]?) fun a17 => kgd (0 ≤ v14.1.1) <| kgd (Int.toNat v14.1.1 < (Int.toNat (imin (Go.SL.w64 (v5.1.1 + 16)) (Nat.cast (List.length v5.2.2.1) : Int)) - Int.toNat v5.1.1)) <| kgd ((Int.toNat v5.1.1 + Int.toNat v14.1.1) < (List.length v14.2.1)) <| r15 ((Go.SL.w64 (v14.1.1 + 1), ()), (List.set v14.2.1 (Int.toNat v5.1.1 + Int.toNat v14.1.1) (a16 ^^^ a17), ())))
 (r6 ((Go.SL.w64 (v5.1.1 + 1), ()), (v5.2.1, (v14.2.1, (a13.2.1, ())))))) ((0, ()), (v5.2.2.1, ())))
 (r6 ((Go.SL.w64 (v5.1.1 + 1), ()), (v5.2.1, (v5.2.2.1, (v5.2.2.2.1, ())))))))
 (kgd ((16 : Int) ≠ 0) <| kbr (Int.tmod v5.1.1 16 == 0)
 (kbnd (K68 (v5.2.2.2.1, (v5.2.1, ())) ()) fun a18 => kgd (0 ≤ v5.1.1) <| kgd (0 ≤ imin (Go.SL.w64 (v5.1.1 + 16)) (Nat.cast (List.length v5.2.2.1) : Int)) <| kgd (Int.toNat v5.1.1 ≤ Int.toNat (imin (Go.SL.w64 (v5.1.1 + 16)) (Nat.cast (List.length v5.2.2.1) : Int))) <| kgd (Int.toNat (imin (Go.SL.w64 (v5.1.1 + 16)) (Nat.cast (List.length v5.2.2.1) : Int)) ≤ (List.length v5.2.2.1)) <| kiter (fun (v19 : ((Int) × Unit) × (List (BitVec 8)) × Unit) => fun r20 => kbr (decide (v19.1.1 < (Nat.cast (Int.toNat (imin (Go.SL.w64 (v5.1.1 + 16)) (Nat.cast (List.length v5.2.2.1) : Int)) - Int.toNat v5.1.1) : Int)))
 (kgd (0 ≤ v19.1.1) <| kgd (Int.toNat v19.1.1 < (Int.toNat (imin (Go.SL.w64 (v5.1.1 + 16)) (Nat.cast (List.length v5.2.2.1) : Int)) - Int.toNat v5.1.1)) <| kbnd (v19.2.1[(Int.toNat v5.1.1 + Int.toNat v19.1.1)]?) fun a21 => kgd (0 ≤ v19.1.1) <| kgd (Int.toNat v19.1.1 < 16) <| kbnd (a18.1.1[Int.toNat v19.1.1]?) fun a22 => kgd (0 ≤ v19.1.1) <| kgd (Int.toNat v19.1.1 < (Int.toNat (imin (Go.SL.w64 (v5.1.1 + 16)) (Nat.cast (List.length v5.2.2.1) : Int)) - Int.toNat v5.1.1)) <| kgd ((Int.toNat v5.1.1 + Int.toNat v19.1.1) < (List.length v19.2.1)) <| r20 ((Go.SL.w64 (v19.1.1 + 1), ()), (List.set v19.2.1 (Int.toNat v5.1.1 + Int.toNat v19.1.1) (a21 ^^^ a22), ())))
 (r6 ((Go.SL.w64 (v5.1.1 + 1), ()), (v5.2.1, (v19.2.1, (a18.2.1, ())))))) ((0, ()), (v5.2.2.1, ())))
 (r6 ((Go.SL.w64 (v5.1.1 + 1), ()), (v5.2.1, (v5.2.2.1, (v5.2.2.2.1, ())))))))
 (some ((v5.2.2.1, ()), ()))) ((0, ()), (a4.1.1, (a3.1.1, (a2.1.1, ()))))
theorem kF59 (x0) (x1) : F59 x0 x1 = K59 x0 x1 := by
  unfold F59 K59
  (try simp only [bth_self]) <;> simp only [gdE_rfl, gdE_Tk, bnd_k, gd_k, br_k, jn_k, iter_k, bth_k, nlq_k, ob_k, kF45, kF65, kF66, kF67, kF68]
noncomputable def K69 (x0 : (List (BitVec 8)) × Unit) (x1 : Unit) : Option (((List (BitVec 8)) × Unit) × Unit) :=
 kgd ((16 : Int) ≠ 0) <| kgd ((16 : Int) ≠ 0) <| kgd (0 ≤ Int.tmod (Go.SL.w64 (16 - Int.tmod (Nat.cast (List.length x0.1) : Int) 16)) 16) <| kgd (few9 (List.length x0.1) (Int.toNat (Int.tmod (Go.SL.w64 (16 - Int.tmod (Nat.cast (List.length x0.1) : Int) 16)) 16))) <| some (((x0.1 ++ List.replicate (Int.toNat (Int.tmod (Go.SL.w64 (16 - Int.tmod (Nat.cast (List.length x0.1) : Int) 16)) 16)) 0#8), ()), ())
theorem kF69 (x0) (x1) : F69 x0 x1 = K69 x0 x1 := by
  unfold F69 K69
  (try simp only [bth_self]) <;> simp only [gdE_rfl, gdE_Tk, bnd_k, gd_k, br_k, jn_k, iter_k, bth_k, nlq_k, ob_k]
noncomputable def K84 (x0 : (List (BitVec 8)) × Unit) (x1 : Unit) : Option (((BitVec 64) × (BitVec 64) × Unit) × Unit) :=
 kiter (fun (v2 : ((Int) × (BitVec 64) × (BitVec 64) × Unit) × Unit) => fun r3 => kbr (decide (v2.1.1 < 8))
 (kgd (0 ≤ v2.1.1) <| kgd (Int.toNat v2.1.1 < 16) <| kbnd (x0.1[Int.toNat v2.1.1]?) fun a4 => kgd (0 ≤ Go.SL.w64 (v2.1.1 + 8)) <| kgd (Int.toNat (Go.SL.w64 (v2.1.1 + 8)) < 16) <| kbnd (x0.1[Int.toNat (Go.SL.w64 (v2.1.1 + 8))]?) fun a5 => r3 ((Go.SL.w64 (v2.1.1 + 1), (((v2.1.2.1 <<< 8) ||| BitVec.setWidth 64 a5), (((v2.1.2.2.1 <<< 8) ||| BitVec.setWidth 64 a4), ()))), ()))
 (some ((v2.1.2.2.1, (v2.1.2.1, ())), ()))) ((0, (0#64, (0#64, ()))), ())
theorem kF84 (x0) (x1) : F84 x0 x1 = K84 x0 x1 := by
  unfold F84 K84
  (try simp only [bth_self]) <;> simp only [gdE_rfl, gdE_Tk, bnd_k, gd_k, br_k, jn_k, iter_k, bth_k, nlq_k, ob_k]
noncomputable def K85 (x0 : (BitVec 64) × (BitVec 64) × Unit) (x1 : Unit) : Option (((List (BitVec 8)) × Unit) × Unit) :=
 kiter (fun (v2 : ((Int) × Unit) × (List (BitVec 8)) × Unit) => fun r3 => kbr (decide (v2.1.1 < 8))
 (kgd (0 ≤ Go.SL.w64 (56 - Go.SL.w64 (8 * v2.1.1))) <| kgd (0 ≤ Go.SL.w64 (56 - Go.SL.w64 (8 * v2.1.1))) <| kgd (0 ≤ v2.1.1) <| kgd (Int.toNat v2.1.1 < 16) <| kgd (Int.toNat v2.1.1 < (List.length v2.2.1)) <| kgd (0 ≤ Go.SL.w64 (v2.1.1 + 8)) <| kgd (Int.toNat (Go.SL.w64 (v2.1.1 + 8)) < 16) <| kgd (Int.toNat (Go.SL.w64 (v2.1.1 + 8)) < (List.length (List.set v2.2.1 (Int.toNat v2.1.1) (BitVec.setWidth 8 (x0.1 >>> Int.toNat (Go.SL.w64 (56 - Go.SL.w64 (8 * v2.1.1)))))))) <| r3 ((Go.SL.w64 (v2.1.1 + 1), ()), (List.set (List.set v2.2.1 (Int.toNat v2.1.1) (BitVec.setWidth 8 (x0.1 >>> Int.toNat (Go.SL.w64 (56 - Go.SL.w64 (8 * v2.1.1)))))) (Int.toNat (Go.SL.w64 (v2.1.1 + 8))) (BitVec.setWidth 8 (x0.2.1 >>> Int.toNat (Go.SL.w64 (56 - Go.SL.w64 (8 * v2.1.1))))), ())))
 (some ((v2.2.1, ()), ()))) ((0, ()), (List.replicate 16 0#8, ()))
theorem kF85 (x0) (x1) : F85 x0 x1 = K85 x0 x1 := by
  unfold F85 K85
  (try simp only [bth_self]) <;> simp only [gdE_rfl, gdE_Tk, bnd_k, gd_k, br_k, jn_k, iter_k, bth_k, nlq_k, ob_k]
noncomputable def K79 (x0 : (List (BitVec 8)) × (List (BitVec 8)) × Unit) (x1 : Unit) : Option (((List (BitVec 8)) × Unit) × Unit) :=
 kbnd (K84 (x0.1, ()) ()) fun a2 => kbnd (K84 (x0.2.1, ()) ()) fun a3 => kiter (fun (v4 : ((Int) × (BitVec 64) × (BitVec 64) × (BitVec 64) × (BitVec 64) × Unit) × Unit) => fun r5 => kbr (decide (v4.1.1 < 128))
 (kjn (fun (v6 : ((BitVec 64) × Unit) × Unit) => kgd ((64 : Int) ≠ 0) <| kgd (0 ≤ Go.SL.w64 (63 - Int.tmod v4.1.1 64)) <| r5 ((Go.SL.w64 (v4.1.1 + 1), ((v4.1.2.1 ^^^ (v4.1.2.2.2.1 &&& (-((v6.1.1 >>> Int.toNat (Go.SL.w64 (63 - Int.tmod v4.1.1 64))) &&& 1#64)))), ((v4.1.2.2.1 ^^^ (v4.1.2.2.2.2.1 &&& (-((v6.1.1 >>> Int.toNat (Go.SL.w64 (63 - Int.tmod v4.1.1 64))) &&& 1#64)))), (((v4.1.2.2.2.1 >>> 1) ||| (v4.1.2.2.2.2.1 <<< 63)), (((v4.1.2.2.2.2.1 >>> 1) ^^^ (16212958658533785600#64 &&& (-(v4.1.2.2.2.1 &&& 1#64)))), ()))))), ()))
 (fun j7 => kbr (decide (v4.1.1 ≥ 64))
 (j7 ((a2.1.2.1, ()), ()))
 (j7 ((a2.1.1, ()), ()))))
 (kbnd (K85 (v4.1.2.2.1, (v4.1.2.1, ())) ()) fun a8 => some ((a8.1.1, ()), ()))) ((0, (0#64, (0#64, (a3.1.2.1, (a3.1.1, ()))))), ())
theorem kF79 (x0) (x1) : F79 x0 x1 = K79 x0 x1 := by
  unfold F79 K79
  (try simp only [bth_self]) <;> simp only [gdE_rfl, gdE_Tk, bnd_k, gd_k, br_k, jn_k, iter_k, bth_k, nlq_k, ob_k, kF84, kF85]
noncomputable def K71 (x0 : (List (BitVec 8)) × Unit) (x1 : (List (BitVec 8)) × Unit) : Option (((List (BitVec 8)) × Unit) × Unit) :=
 kiter (fun (v2 : ((List (BitVec 8)) × Unit) × (List (BitVec 8)) × Unit) => fun r3 => kbr (decide ((Nat.cast (List.length v2.1.1) : Int) > 0))
 (kgd ((0 : Nat) ≤ 16) <| kgd ((16 : Nat) ≤ 16) <| kgd ((0 : Nat) < 16) <| kgd ((16 : Nat) ≤ 16) <| kgd (0 ≤ (Nat.cast (Min.min (List.length v2.1.1) 16) : Int)) <| kgd (Int.toNat (Nat.cast (Min.min (List.length v2.1.1) 16) : Int) ≤ (List.length v2.1.1)) <| kgd ((List.length v2.1.1) ≤ (List.length v2.1.1)) <| kbnd (K70 (v2.2.1, (ovl (List.replicate 16 0#8) 0 (List.take 16 v2.1.1), ())) ()) fun a4 => kbnd (K79 (a4.1.1, (x0.1, ())) ()) fun a5 => r3 ((List.drop (Int.toNat (Nat.cast (Min.min (List.length v2.1.1) 16) : Int)) (List.take (List.length v2.1.1) v2.1.1), ()), (a5.1.1, ())))
 (some ((v2.2.1, ()), ()))) ((x1.1, ()), (List.replicate 16 0#8, ()))
theorem kF71 (x0) (x1) : F71 x0 x1 = K71 x0 x1 := by
  unfold F71 K71
  (try simp only [bth_self]) <;> simp only [gdE_rfl, gdE_Tk, bnd_k, gd_k, br_k, jn_k, iter_k, bth_k, nlq_k, ob_k, kF70, kF79]
noncomputable def K60 (x0 : (List (BitVec 8)) × (List (BitVec 8)) × Unit) (x1 : (List (BitVec 8)) × (List (BitVec 8)) × Unit) : Option (((List (BitVec 8)) × Unit) × Unit) :=
 kbnd (K65 () (x0.1, ())) fun a2 => kbnd (K45 () (x1.1, ())) fun a3 => kbnd (K69 (a3.1.1, ()) ()) fun a4 => kgd (few (List.length a4.1.1) (List.length x1.2.1)) <| kbnd (K69 ((a4.1.1 ++ x1.2.1), ()) ()) fun a5 => kiter (fun (v6 : ((Int) × (List (BitVec 8)) × Unit) × Unit) => fun r7 => kbr (decide (v6.1.1 < (Nat.cast (List.length (((Nat.cast (List.length x1.1) : Int) :: ((Nat.cast (List.length x1.2.1) : Int) :: [])) : List (Int))) : Int)))
 (kgd (0 ≤ v6.1.1) <| kgd (Int.toNat v6.1.1 < (List.length (((Nat.cast (List.length x1.1) : Int) :: ((Nat.cast (List.length x1.2.1) : Int) :: [])) : List (Int)))) <| kbnd (((Nat.cast (List.length x1.1) : Int) :: ((Nat.cast (List.length x1.2.1) : Int) :: []))[Int.toNat v6.1.1]?) fun a8 => kiter (fun (v9 : ((Int) × (List (BitVec 8)) × Unit) × Unit) => fun r10 => kbr (decide (v9.1.1 < 8))
 (kgd (0 ≤ Go.SL.w64 (56 - Go.SL.w64 (8 * v9.1.1))) <| kgd (few (List.length v9.1.2.1) (List.length ((BitVec.ofInt 8 (Go.SL.ishr64 (Go.SL.w64 (8 * a8)) (Int.toNat (Go.SL.w64 (56 - Go.SL.w64 (8 * v9.1.1))))) :: []) : List (BitVec 8)))) <| r10 ((Go.SL.w64 (v9.1.1 + 1), ((v9.1.2.1 ++ (BitVec.ofInt 8 (Go.SL.ishr64 (Go.SL.w64 (8 * a8)) (Int.toNat (Go.SL.w64 (56 - Go.SL.w64 (8 * v9.1.1))))) :: [])), ())), ()))
 (r7 ((Go.SL.w64 (v6.1.1 + 1), (v9.1.2.1, ())), ()))) ((0, (v6.1.2.1, ())), ()))
 (kbnd (K68 (a2.1.1, (List.replicate 16 0#8, ())) ()) fun a11 => kbnd (K71 (a11.1.1, ()) (v6.1.2.1, ())) fun a12 => kbnd (K66 (x0.2.1, (1#32, ())) ()) fun a13 => kbnd (K68 (a11.2.1, (a13.1.1, ())) ()) fun a14 => kbnd (K70 (a12.1.1, (a14.1.1, ())) ()) fun a15 => some ((a15.1.1, ()), ()))) ((0, (a5.1.1, ())), ())
theorem kF60 (x0) (x1) : F60 x0 x1 = K60 x0 x1 := by
  unfold F60 K60
  (try simp only [bth_self]) <;> simp only [gdE_rfl, gdE_Tk, bnd_k, gd_k, br_k, jn_k, iter_k, bth_k, nlq_k, ob_k, kF45, kF65, kF66, kF68, kF69, kF70, kF71]
noncomputable def K51 (x0 : (List (BitVec 8)) × (List (BitVec 8)) × Unit) (x1 : (List (BitVec 8)) × (List (BitVec 8)) × Unit) : Option (((List (BitVec 8)) × Unit) × Unit) :=
 kbnd (K59 (x0.1, (x0.2.1, (2#32, ()))) (x1.2.1, ())) fun a2 => kbnd (K60 (x0.1, (x0.2.1, ())) (x1.1, (a2.1.1, ()))) fun a3 => kgd (0 ≤ (Nat.cast (List.length a2.1.1) : Int)) <| kgd (0 ≤ (Nat.cast (List.length a2.1.1) : Int)) <| kgd (Int.toNat (Nat.cast (List.length a2.1.1) : Int) = (List.length a2.1.1)) <| kgd (Int.toNat (Nat.cast (List.length a2.1.1) : Int) = (List.length a2.1.1)) <| kgd ((0 : Nat) ≤ 16) <| kgd ((16 : Nat) ≤ 16) <| kgd (16 ≤ (List.length a3.1.1)) <| kgd (few (List.length a2.1.1) (List.length (List.take 16 (List.drop 0 a3.1.1)))) <| some (((a2.1.1 ++ List.take 16 (List.drop 0 a3.1.1)), ()), ())
theorem kF51 (x0) (x1) : F51 x0 x1 = K51 x0 x1 := by
  unfold F51 K51
  (try simp only [bth_self]) <;> simp only [gdE_rfl, gdE_Tk, bnd_k, gd_k, br_k, jn_k, iter_k, bth_k, nlq_k, ob_k, kF59, kF60]
noncomputable def K40 (x0 : ((List ((Bool) × (List ((List (BitVec 8)) × (Int) × (Bool) × Unit)) × Unit)) × Unit) × (Int) × Unit) (x1 : (List (BitVec 8)) × (List (BitVec 8)) × Unit) : Option (((List (BitVec 8)) × (Int) × (Int) × Unit) × ((List ((Bool) × (List ((List (BitVec 8)) × (Int) × (Bool) × Unit)) × Unit)) × Unit) × Unit) :=
 kbr (decide ((Nat.cast (List.length x1.1) : Int) > 64))
 (some (([], (0, (2, ()))), (x0.1, ())))
 (kbr (cond false true (decide ((Nat.cast (List.length x1.2.1) : Int) > 32)))
 (some (([], (0, (2, ()))), (x0.1, ())))
 (kbnd (K49 (x0.1, (x0.2.1, ())) ()) fun a2 => kbr (a2.1.2.2.2.1 != 0)
 (some (([], (0, (a2.1.2.2.2.1, ()))), (a2.2.1, ())))
 (kiter (fun (v3 : ((Int) × Unit) × (List (BitVec 8)) × Unit) => fun r4 => kbr (decide (v3.1.1 < 8))
 (kgd (0 ≤ Go.SL.w64 (8 * v3.1.1)) <| kgd (0 ≤ Go.SL.w64 (11 - v3.1.1)) <| kgd (Int.toNat (Go.SL.w64 (11 - v3.1.1)) < 12) <| kgd (Int.toNat (Go.SL.w64 (11 - v3.1.1)) < (List.length v3.2.1)) <| r4 ((Go.SL.w64 (v3.1.1 + 1), ()), (List.set v3.2.1 (Int.toNat (Go.SL.w64 (11 - v3.1.1))) (BitVec.ofInt 8 (Go.SL.ishr64 a2.1.2.1 (Int.toNat (Go.SL.w64 (8 * v3.1.1))))), ())))
 (kbnd (K51 (a2.1.2.2.1, (v3.2.1, ())) (x1.2.1, (x1.1, ()))) fun a5 => kbnd (K50 (x0.2.1, (a2.1.1, (v3.2.1, ()))) (a5.1.1, ())) fun a6 => some ((a6.1.1, (a2.1.1, (0, ()))), (a2.2.1, ())))) ((0, ()), (List.replicate 12 0#8, ())))))
theorem kF40 (x0) (x1) : F40 x0 x1 = K40 x0 x1 := by
  unfold F40 K40
  (try simp only [bth_self]) <;> simp only [gdE_rfl, gdE_Tk, bnd_k, gd_k, br_k, jn_k, iter_k, bth_k, nlq_k, ob_k, kF49, kF50, kF51]
noncomputable def K61 (x0 : Unit) (x1 : (List (BitVec 8)) × Unit) : Option (((Int) × (List (BitVec 8)) × (Int) × Unit) × Unit) :=
 kbr ((Nat.cast (List.length x1.1) : Int) == 0)
 (kbnd (K45 () ([], ())) fun a2 => some ((0, (a2.1.1, (3, ()))), ()))
 (kgd ((0 : Int) ≤ 0) <| kbnd x1.1[0]? fun a3 => kbr (decide ((Nat.cast (BitVec.toNat a3) : Int) > 8))
 (kbnd (K45 () ([], ())) fun a4 => some ((0, (a4.1.1, (80, ()))), ()))
 (kbr (decide ((Nat.cast (List.length x1.1) : Int) < Go.SL.w64 (1 + (Nat.cast (BitVec.toNat a3) : Int))))
 (kbnd (K45 () ([], ())) fun a5 => some ((0, (a5.1.1, (3, ()))), ()))
 (kgd ((0 : Int) ≤ 1) <| kgd (0 ≤ Go.SL.w64 (1 + (Nat.cast (BitVec.toNat a3) : Int))) <| kgd (1 ≤ Int.toNat (Go.SL.w64 (1 + (Nat.cast (BitVec.toNat a3) : Int)))) <| kgd (Int.toNat (Go.SL.w64 (1 + (Nat.cast (BitVec.toNat a3) : Int))) ≤ (List.length x1.1)) <| kiter (fun (v6 : ((Int) × (Int) × Unit) × Unit) => fun r7 => kbr (decide (v6.1.1 < (Nat.cast (List.length (List.drop 1 (List.take (Int.toNat (Go.SL.w64 (1 + (Nat.cast (BitVec.toNat a3) : Int)))) x1.1))) : Int)))
 (kgd (0 ≤ v6.1.1) <| kbnd ((List.drop 1 (List.take (Int.toNat (Go.SL.w64 (1 + (Nat.cast (BitVec.toNat a3) : Int)))) x1.1))[Int.toNat v6.1.1]?) fun a8 => r7 ((Go.SL.w64 (v6.1.1 + 1), (Go.SL.ior64 (Go.SL.ishl64 v6.1.2.1 8) (Nat.cast (BitVec.toNat a8) : Int), ())), ()))
 (kbr (decide (v6.1.2.1 < 0))
 (kbnd (K45 () ([], ())) fun a9 => some ((0, (a9.1.1, (80, ()))), ()))
 (kbnd (K63 (BitVec.ofInt 64 v6.1.2.1, ()) ()) fun a10 => kgd ((8 : Int) ≠ 0) <| kbr (cond false true (Go.SL.w64 (Int.tdiv (Go.SL.w64 (a10.1.1 + 7)) 8) != (Nat.cast (BitVec.toNat a3) : Int)))
 (kbnd (K45 () ([], ())) fun a11 => some ((0, (a11.1.1, (80, ()))), ()))
 (kgd (0 ≤ Go.SL.w64 (1 + (Nat.cast (BitVec.toNat a3) : Int))) <| kgd (Int.toNat (Go.SL.w64 (1 + (Nat.cast (BitVec.toNat a3) : Int))) ≤ (List.length x1.1)) <| kgd ((List.length x1.1) ≤ (List.length x1.1)) <| kbnd (K45 () (List.drop (Int.toNat (Go.SL.w64 (1 + (Nat.cast (BitVec.toNat a3) : Int)))) (List.take (List.length x1.1) x1.1), ())) fun a12 => some ((v6.1.2.1, (a12.1.1, (0, ()))), ()))))) ((0, (0, ())), ()))))
theorem kF61 (x0) (x1) : F61 x0 x1 = K61 x0 x1 := by
  unfold F61 K61
  (try simp only [bth_self]) <;> simp only [gdE_rfl, gdE_Tk, bnd_k, gd_k, br_k, jn_k, iter_k, bth_k, nlq_k, ob_k, kF45, kF63]
noncomputable def K52 (x0 : Unit) (x1 : (List (BitVec 8)) × Unit) : Option (((Int) × (Int) × (List (BitVec 8)) × (List (BitVec 8)) × (Int) × Unit) × Unit) :=
 kbnd (K61 () (x1.1, ())) fun a2 => kbnd (K61 () (a2.1.2.1, ())) fun a3 => kbr (a2.1.2.2.1 != 0)
 (some ((0, (0, (List.replicate 12 0#8, ([], (140, ()))))), ()))
 (kbr (cond false true (a3.1.2.2.1 != 0))
 (some ((0, (0, (List.replicate 12 0#8, ([], (140, ()))))), ()))
 (kbr (cond false true (decide (imin a2.1.1 a3.1.1 < 1)))
 (some ((0, (0, (List.replicate 12 0#8, ([], (140, ()))))), ()))
 (kbr (cond false true (decide ((Nat.cast (List.length a3.1.2.1) : Int) < 28)))
 (some ((0, (0, (List.replicate 12 0#8, ([], (140, ()))))), ()))
 (kbr (cond false true (decide ((Nat.cast (List.length a3.1.2.1) : Int) > 92)))
 (some ((0, (0, (List.replicate 12 0#8, ([], (140, ()))))), ()))
 (kgd ((0 : Nat) ≤ 12) <| kgd ((12 : Nat) ≤ 12) <| kgd ((0 : Nat) < 12) <| kgd ((12 : Nat) ≤ 12) <| kgd ((0 : Int) ≤ 12) <| kgd (12 ≤ (List.length a3.1.2.1)) <| kgd ((List.length a3.1.2.1) ≤ (List.length a3.1.2.1)) <| some ((a2.1.1, (a3.1.1, (ovl (List.replicate 12 0#8) 0 (List.take 12 a3.1.2.1), (List.drop 12 (List.take (List.length a3.1.2.1) a3.1.2.1), (0, ()))))), ()))))))
theorem kF52 (x0) (x1) : F52 x0 x1 = K52 x0 x1 := by
  unfold F52 K52
  (try simp only [bth_self]) <;> simp only [gdE_rfl, gdE_Tk, bnd_k, gd_k, br_k, jn_k, iter_k, bth_k, nlq_k, ob_k, kF61]
noncomputable def K53 (x0 : ((List ((Bool) × (List ((List (BitVec 8)) × (Int) × (Bool) × Unit)) × Unit)) × Unit) × (Int) × (Int) × Unit) (x1 : Unit) : Option (((List (BitVec 8)) × (Int) × Unit) × ((List ((Bool) × (List ((List (BitVec 8)) × (Int) × (Bool) × Unit)) × Unit)) × Unit) × Unit) :=
 kbr (decide (x0.2.1 < 1))
 (some ((List.replicate 32 0#8, (130, ())), (x0.1, ())))
 (kbr (cond false true (decide (x0.2.1 > (Nat.cast (List.length x0.1.1) : Int))))
 (some ((List.replicate 32 0#8, (130, ())), ((x0.1.1, ()), ())))
 (kgd (0 ≤ Go.SL.w64 (x0.2.1 - 1)) <| kgd (Int.toNat (Go.SL.w64 (x0.2.1 - 1)) < (List.length x0.1.1)) <| kbr (cond false true (decide (x0.2.2.1 < 1)))
 (some ((List.replicate 32 0#8, (130, ())), ((x0.1.1, ()), ())))
 (kbnd (x0.1.1[Int.toNat (Go.SL.w64 (x0.2.1 - 1))]?) fun a2 => kbr (cond false true (decide (x0.2.2.1 > (Nat.cast (List.length a2.2.1) : Int))))
 (some ((List.replicate 32 0#8, (130, ())), ((List.set x0.1.1 (Int.toNat (Go.SL.w64 (x0.2.1 - 1))) (a2.1, (a2.2.1, ())), ()), ())))
 (kgd (Int.toNat (Go.SL.w64 (x0.2.1 - 1)) = Int.toNat (Go.SL.w64 (x0.2.1 - 1))) <| kgd (0 ≤ Go.SL.w64 (x0.2.2.1 - 1)) <| kgd (Int.toNat (Go.SL.w64 (x0.2.2.1 - 1)) < (List.length a2.2.1)) <| kbr (decide (x0.2.1 < 1))
 (none)
 (kbr (cond false true (decide (x0.2.1 > (Nat.cast (List.length x0.1.1) : Int))))
 (none)
 (kgd (0 ≤ Go.SL.w64 (x0.2.1 - 1)) <| kgd (Int.toNat (Go.SL.w64 (x0.2.1 - 1)) < (List.length x0.1.1)) <| kgd (Int.toNat (Go.SL.w64 (x0.2.1 - 1)) = Int.toNat (Go.SL.w64 (x0.2.1 - 1))) <| kbr a2.1
 (some ((List.replicate 32 0#8, (131, ())), ((List.set x0.1.1 (Int.toNat (Go.SL.w64 (x0.2.1 - 1))) (a2.1, (a2.2.1, ())), ()), ())))
 (kbnd (a2.2.1[Int.toNat (Go.SL.w64 (x0.2.2.1 - 1))]?) fun a3 => kbr a3.2.2.1
 (some ((List.replicate 32 0#8, (132, ())), ((List.set x0.1.1 (Int.toNat (Go.SL.w64 (x0.2.1 - 1))) (a2.1, (a2.2.1, ())), ()), ())))
 (kbnd (a2.2.1[Int.toNat (Go.SL.w64 (x0.2.2.1 - 1))]?) fun a4 => some ((a4.1, (0, ())), ((List.set x0.1.1 (Int.toNat (Go.SL.w64 (x0.2.1 - 1))) (a2.1, (a2.2.1, ())), ()), ()))))))))))
theorem kF53 (x0) (x1) : F53 x0 x1 = K53 x0 x1 := by
  unfold F53 K53
  (try simp only [bth_self]) <;> simp only [gdE_rfl, gdE_Tk, bnd_k, gd_k, br_k, jn_k, iter_k, bth_k, nlq_k, ob_k]
noncomputable def K54 (x0 : (List (BitVec 8)) × (List (BitVec 8)) × Unit) (x1 : (List (BitVec 8)) × (List (BitVec 8)) × Unit) : Option (((List (BitVec 8)) × (Int) × Unit) × Unit) :=
 kbr (decide (Go.SL.w64 ((Nat.cast (List.length x1.2.1) : Int) - 16) < 0))
 (some (([], (3, ())), ()))
 (kgd (0 ≤ Go.SL.w64 ((Nat.cast (List.length x1.2.1) : Int) - 16)) <| kgd (0 ≤ Int.toNat (Go.SL.w64 ((Nat.cast (List.length x1.2.1) : Int) - 16))) <| kgd (Int.toNat (Go.SL.w64 ((Nat.cast (List.length x1.2.1) : Int) - 16)) ≤ (List.length x1.2.1)) <| (kbnd (K60 (x0.1, (x0.2.1, ())) (x1.1, (List.drop 0 (List.take (Int.toNat (Go.SL.w64 ((Nat.cast (List.length x1.2.1) : Int) - 16))) x1.2.1), ()))) fun a2 => kiter (fun (v3 : ((Int) × (BitVec 8) × Unit) × Unit) => fun r4 => kbr (decide (v3.1.1 < 16))
 (kgd (0 ≤ v3.1.1) <| kgd (Int.toNat v3.1.1 < 16) <| kbnd (a2.1.1[Int.toNat v3.1.1]?) fun a5 => kgd (0 ≤ Go.SL.w64 (Go.SL.w64 ((Nat.cast (List.length x1.2.1) : Int) - 16) + v3.1.1)) <| kbnd (x1.2.1[Int.toNat (Go.SL.w64 (Go.SL.w64 ((Nat.cast (List.length x1.2.1) : Int) - 16) + v3.1.1))]?) fun a6 => r4 ((Go.SL.w64 (v3.1.1 + 1), ((v3.1.2.1 ||| (a5 ^^^ a6)), ())), ()))
 (kbr (v3.1.2.1 != 0#8)
 (some (([], (40, ())), ()))
 (kgd (0 ≤ Go.SL.w64 ((Nat.cast (List.length x1.2.1) : Int) - 16)) <| kgd (0 ≤ Int.toNat (Go.SL.w64 ((Nat.cast (List.length x1.2.1) : Int) - 16))) <| kgd (Int.toNat (Go.SL.w64 ((Nat.cast (List.length x1.2.1) : Int) - 16)) ≤ (List.length x1.2.1)) <| kbnd (K59 (x0.1, (x0.2.1, (2#32, ()))) (List.drop 0 (List.take (Int.toNat (Go.SL.w64 ((Nat.cast (List.length x1.2.1) : Int) - 16))) x1.2.1), ())) fun a7 => some ((a7.1.1, (0, ())), ())))) ((0, (0#8, ())), ())))
theorem kF54 (x0) (x1) : F54 x0 x1 = K54 x0 x1 := by
  unfold F54 K54
  (try simp only [bth_self]) <;> simp only [gdE_rfl, gdE_Tk, bnd_k, gd_k, br_k, jn_k, iter_k, bth_k, nlq_k, ob_k, kF59, kF60]
noncomputable def K41 (x0 : ((List ((Bool) × (List ((List (BitVec 8)) × (Int) × (Bool) × Unit)) × Unit)) × Unit) × Unit) (x1 : (List (BitVec 8)) × (List (BitVec 8)) × Unit) : Option (((List (BitVec 8)) × (Int) × Unit) × ((List ((Bool) × (List ((List (BitVec 8)) × (Int) × (Bool) × Unit)) × Unit)) × Unit) × Unit) :=
 kbr (decide ((Nat.cast (List.length x1.2.1) : Int) > 32))
 (some (([], (2, ())), (x0.1, ())))
 (kbnd (K52 () (x1.1, ())) fun a2 => kbr (a2.1.2.2.2.2.1 != 0)
 (some (([], (a2.1.2.2.2.2.1, ())), (x0.1, ())))
 (kbnd (K53 (x0.1, (a2.1.1, (a2.1.2.1, ()))) ()) fun a3 => kbr (a3.1.2.1 != 0)
 (some (([], (a3.1.2.1, ())), (a3.2.1, ())))
 (kbnd (K54 (a3.1.1, (a2.1.2.2.1, ())) (x1.2.1, (a2.1.2.2.2.1, ()))) fun a4 => some ((a4.1.1, (a4.1.2.1, ())), (a3.2.1, ())))))
theorem kF41 (x0) (x1) : F41 x0 x1 = K41 x0 x1 := by
  unfold F41 K41
  (try simp only [bth_self]) <;> simp only [gdE_rfl, gdE_Tk, bnd_k, gd_k, br_k, jn_k, iter_k, bth_k, nlq_k, ob_k, kF52, kF53, kF54]
noncomputable def K42 (x0 : ((List ((Bool) × (List ((List (BitVec 8)) × (Int) × (Bool) × Unit)) × Unit)) × Unit) × Unit) (x1 : (List (BitVec 8)) × (List (BitVec 8)) × Unit) : Option (((List (BitVec 8)) × (Int) × (Int) × Unit) × ((List ((Bool) × (List ((List (BitVec 8)) × (Int) × (Bool) × Unit)) × Unit)) × Unit) × Unit) :=
 kbnd (K41 (x0.1, ()) (x1.1, (x1.2.1, ()))) fun a2 => kbr (a2.1.2.1 != 0)
 (some (([], (0, (a2.1.2.1, ()))), (a2.2.1, ())))
 (kbnd (K52 () (x1.1, ())) fun a3 => kbnd (K40 (a2.2.1, (a3.1.1, ())) (a2.1.1, (x1.2.1, ()))) fun a4 => some ((a4.1.1, (a4.1.2.1, (a4.1.2.2.1, ()))), (a4.2.1, ())))
theorem kF42 (x0) (x1) : F42 x0 x1 = K42 x0 x1 := by
  unfold F42 K42
  (try simp only [bth_self]) <;> simp only [gdE_rfl, gdE_Tk, bnd_k, gd_k, br_k, jn_k, iter_k, bth_k, nlq_k, ob_k, kF40, kF41, kF52]
noncomputable def K46 (x0 : ((List (BitVec 8)) × (List (BitVec 8)) × (Int) × Unit) × (Int) × Unit) (x1 : (List (BitVec 8)) × Unit) : Option (((List (BitVec 8)) × (Int) × Unit) × ((List (BitVec 8)) × (List (BitVec 8)) × (Int) × Unit) × Unit) :=
 kjn (fun (v2 : ((Bool) × Unit) × Unit) => kbr v2.1.1
 (some (([], (1, ())), (x0.1, ())))
 (kbr (decide (x0.1.2.2.1 > 1048576))
 (some (([], (70, ())), ((x0.1.1, (x0.1.2.1, (x0.1.2.2.1, ()))), ())))
 (kjn (fun (v3 : (Unit) × ((List (BitVec 8)) × (List (BitVec 8)) × (Int) × Unit) × Unit) => kiter (fun (v4 : ((List (BitVec 8)) × Unit) × ((List (BitVec 8)) × (List (BitVec 8)) × (Int) × Unit) × Unit) => fun r5 => kbr (decide ((Nat.cast (List.length v4.1.1) : Int) < x0.2.1))
 (kgd ((0 : Nat) ≤ 32) <| kgd ((32 : Nat) ≤ 32) <| kgd ((0 : Nat) ≤ 32) <| kgd ((32 : Nat) ≤ 32) <| kgd (32 ≤ (List.length v4.2.1.2.1)) <| kbnd (K58 () ((List.take 32 (List.drop 0 v4.2.1.2.1) :: []), ())) fun a6 => kgd (32 ≤ (List.length v4.2.1.1)) <| kbnd (K62 () (List.take 32 (List.drop 0 v4.2.1.1), (a6.1.1, ()))) fun a7 => kgd ((0 : Nat) ≤ 32) <| kgd ((32 : Nat) ≤ 32) <| kgd (32 ≤ (List.length a7.1.1)) <| kgd (few (List.length v4.1.1) (List.length (List.take 32 (List.drop 0 a7.1.1)))) <| r5 (((v4.1.1 ++ List.take 32 (List.drop 0 a7.1.1)), ()), ((v4.2.1.1, (a7.1.1, (v4.2.1.2.2.1, ()))), ())))
 (kbnd (K44 (v4.2.1, ()) (x1.1, ())) fun a8 => kgd (0 ≤ x0.2.1) <| kgd (0 ≤ Int.toNat x0.2.1) <| kgd (Int.toNat x0.2.1 ≤ (List.length v4.1.1)) <| kgd ((0 + (Int.toNat x0.2.1 - 0)) ≤ (List.length v4.1.1)) <| some ((List.take (Int.toNat x0.2.1 - 0) (List.drop 0 v4.1.1), (0, ())), ((a8.2.1.1, (a8.2.1.2.1, (Go.SL.w64 (a8.2.1.2.2.1 + 1), ()))), ())))) (([], ()), (v3.2.1, ())))
 (fun j9 => kbr (decide ((Nat.cast (List.length x1.1) : Int) > 0))
 (kbnd (K44 ((x0.1.1, (x0.1.2.1, (x0.1.2.2.1, ()))), ()) (x1.1, ())) fun a10 => j9 ((), (a10.2.1, ())))
 (j9 ((), ((x0.1.1, (x0.1.2.1, (x0.1.2.2.1, ()))), ())))))))
 (fun j11 => kbr (decide (x0.2.1 < 0))
 (j11 (((decide (x0.2.1 < 0)), ()), ()))
 (j11 (((decide (x0.2.1 > 256)), ()), ())))
theorem kF46 (x0) (x1) : F46 x0 x1 = K46 x0 x1 := by
  unfold F46 K46
  (try simp only [bth_self]) <;> simp only [gdE_rfl, gdE_Tk, bnd_k, gd_k, br_k, jn_k, iter_k, bth_k, nlq_k, ob_k, kF44, kF58, kF62]
noncomputable def K17 (x0 : (((List (BitVec 8)) × (List (BitVec 8)) × (Int) × Unit) × ((List ((Bool) × (List ((List (BitVec 8)) × (Int) × (Bool) × Unit)) × Unit)) × Unit) × ((List ((Int) × (Int) × (Int) × ((Int) × (Int) × (Int) × (List (BitVec 8)) × Unit) × Unit)) × (Int) × Unit) × Unit) × Unit) (x1 : ((Int) × (Int) × (Int) × (Int) × (Int) × (List (BitVec 8)) × (List (BitVec 8)) × Unit) × Unit) : Option ((((Int) × (Int) × (Int) × (List (BitVec 8)) × Unit) × (Int) × Unit) × (((List (BitVec 8)) × (List (BitVec 8)) × (Int) × Unit) × ((List ((Bool) × (List ((List (BitVec 8)) × (Int) × (Bool) × Unit)) × Unit)) × Unit) × ((List ((Int) × (Int) × (Int) × ((Int) × (Int) × (Int) × (List (BitVec 8)) × Unit) × Unit)) × (Int) × Unit) × Unit) × Unit) :=
 kbr (x1.1.1 == 3)
 (kbnd (K46 (x0.1.1, (32, ())) ([], ())) fun a2 => kbr (a2.1.2.1 != 0)
 (some (((0, (0, (0, ([], ())))), (a2.1.2.1, ())), ((a2.2.1, (x0.1.2.1, (x0.1.2.2.1, ()))), ())))
 (kgd (32 ≤ (List.length a2.1.1)) <| kbnd (K35 (x0.1.2.1, (List.take 32 a2.1.1, ())) ()) fun a3 => some (((0, (a3.1.1, (1, ([], ())))), (a3.1.2.1, ())), ((a2.2.1, (a3.2.1, (x0.1.2.2.1, ()))), ()))))
 (kbr (x1.1.1 == 4)
 (kbnd (K46 (x0.1.1, (32, ())) ([], ())) fun a4 => kbr (a4.1.2.1 != 0)
 (some (((0, (0, (0, ([], ())))), (a4.1.2.1, ())), ((a4.2.1, (x0.1.2.1, (x0.1.2.2.1, ()))), ())))
 (kgd (32 ≤ (List.length a4.1.1)) <| kbnd (K37 (x0.1.2.1, (x1.1.2.2.2.1, (List.take 32 a4.1.1, ()))) ()) fun a5 => some (((0, (x1.1.2.2.2.1, (a5.1.1, ([], ())))), (a5.1.2.1, ())), ((a4.2.1, (a5.2.1, (x0.1.2.2.1, ()))), ()))))
 (kbr (x1.1.1 == 5)
 (kbnd (K38 (x0.1.2.1, (x1.1.2.2.2.1, ((x1.1.2.2.2.2.1 == 1), ()))) ()) fun a6 => some (((0, (0, (0, ([], ())))), (a6.1.1, ())), ((x0.1.1, (a6.2.1, (x0.1.2.2.1, ()))), ())))
 (kbr (x1.1.1 == 6)
 (kbnd (K39 (x0.1.2.1, (x1.1.2.2.2.1, (x1.1.2.2.2.2.1, ()))) ()) fun a7 => some (((0, (0, (0, ([], ())))), (a7.1.1, ())), ((x0.1.1, (a7.2.1, (x0.1.2.2.1, ()))), ())))
 (kbr (x1.1.1 == 7)
 (kbnd (K40 (x0.1.2.1, (x1.1.2.2.2.1, ())) (x1.1.2.2.2.2.2.1, (x1.1.2.2.2.2.2.2.1, ()))) fun a8 => some (((0, (x1.1.2.2.2.1, (a8.1.2.1, (a8.1.1, ())))), (a8.1.2.2.1, ())), ((x0.1.1, (a8.2.1, (x0.1.2.2.1, ()))), ())))
 (kbr (x1.1.1 == 8)
 (kbnd (K41 (x0.1.2.1, ()) (x1.1.2.2.2.2.2.1, (x1.1.2.2.2.2.2.2.1, ()))) fun a9 => some (((0, (0, (0, (a9.1.1, ())))), (a9.1.2.1, ())), ((x0.1.1, (a9.2.1, (x0.1.2.2.1, ()))), ())))
 (kbr (x1.1.1 == 9)
 (kbnd (K42 (x0.1.2.1, ()) (x1.1.2.2.2.2.2.1, (x1.1.2.2.2.2.2.2.1, ()))) fun a10 => some (((0, (0, (a10.1.2.1, (a10.1.1, ())))), (a10.1.2.2.1, ())), ((x0.1.1, (a10.2.1, (x0.1.2.2.1, ()))), ())))
 (kbr (x1.1.1 == 10)
 (kbnd (K20 (x0.1.1, ()) (x1.1.2.2.2.2.2.1, ())) fun a11 => some (((0, (0, (0, ([], ())))), (0, ())), ((a11.2.1, (x0.1.2.1, (x0.1.2.2.1, ()))), ())))
 (some (((0, (0, (0, ([], ())))), (0, ())), (x0.1, ()))))))))))
theorem kF17 (x0) (x1) : F17 x0 x1 = K17 x0 x1 := by
  unfold F17 K17
  (try simp only [bth_self]) <;> simp only [gdE_rfl, gdE_Tk, bnd_k, gd_k, br_k, jn_k, iter_k, bth_k, nlq_k, ob_k, kF20, kF35, kF37, kF38, kF39, kF40, kF41, kF42, kF46]
noncomputable def K18 (x0 : ((List ((Int) × (Int) × (Int) × ((Int) × (Int) × (Int) × (List (BitVec 8)) × Unit) × Unit)) × (Int) × Unit) × (Int) × (Int) × ((Int) × (Int) × (Int) × (List (BitVec 8)) × Unit) × Unit) (x1 : Unit) : Option (((Int) × Unit) × ((List ((Int) × (Int) × (Int) × ((Int) × (Int) × (Int) × (List (BitVec 8)) × Unit) × Unit)) × (Int) × Unit) × Unit) :=
 kob (mget x0.1.1 x0.2.1) (kbr true
 (some ((150, ()), ((x0.1.1, (x0.1.2.1, ())), ())))
 (kbr (decide (x0.2.2.1 ≤ 0))
 (some ((151, ()), ((x0.1.1, (x0.1.2.1, ())), ())))
 (kbnd (K32 () (x0.2.2.2.1, ())) fun a2 => some ((0, ()), ((mput x0.1.1 x0.2.1 (x0.2.1, (x0.2.2.1, (a2.1.1, ()))), (x0.1.2.1, ())), ()))))) fun a3 => kbr false
 (some ((150, ()), ((x0.1.1, (x0.1.2.1, ())), ())))
 (kbr (decide (x0.2.2.1 ≤ a3.2.1))
 (some ((151, ()), ((x0.1.1, (x0.1.2.1, ())), ())))
 (kbnd (K32 () (x0.2.2.2.1, ())) fun a4 => some ((0, ()), ((mput x0.1.1 x0.2.1 (x0.2.1, (x0.2.2.1, (a4.1.1, ()))), (x0.1.2.1, ())), ()))))
theorem kF18 (x0) (x1) : F18 x0 x1 = K18 x0 x1 := by
  unfold F18 K18
  (try simp only [bth_self]) <;> simp only [gdE_rfl, gdE_Tk, bnd_k, gd_k, br_k, jn_k, iter_k, bth_k, nlq_k, ob_k, kF32]
noncomputable def K7 (x0 : (((List (BitVec 8)) × (List (BitVec 8)) × (Int) × Unit) × ((List ((Bool) × (List ((List (BitVec 8)) × (Int) × (Bool) × Unit)) × Unit)) × Unit) × ((List ((Int) × (Int) × (Int) × ((Int) × (Int) × (Int) × (List (BitVec 8)) × Unit) × Unit)) × (Int) × Unit) × Unit) × Unit) (x1 : ((Int) × (Int) × (Int) × (Int) × (Int) × (List (BitVec 8)) × (List (BitVec 8)) × Unit) × Unit) : Option ((((Int) × (Int) × (Int) × (List (BitVec 8)) × Unit) × Unit) × (((List (BitVec 8)) × (List (BitVec 8)) × (Int) × Unit) × ((List ((Bool) × (List ((List (BitVec 8)) × (Int) × (Bool) × Unit)) × Unit)) × Unit) × ((List ((Int) × (Int) × (Int) × ((Int) × (Int) × (Int) × (List (BitVec 8)) × Unit) × Unit)) × (Int) × Unit) × Unit) × Unit) :=
 kbnd (K12 () ((x1.1.1, (x1.1.2.1, (x1.1.2.2.1, (x1.1.2.2.2.1, (x1.1.2.2.2.2.1, (x1.1.2.2.2.2.2.1, (x1.1.2.2.2.2.2.2.1, ()))))))), ())) fun a2 => kbr (a2.1.1 != 0)
 (kbnd (K13 ((0, (0, (0, ([], ())))), (a2.1.1, ())) ()) fun a3 => some ((a3.1.1, ()), (x0.1, ())))
 (kbr (x1.1.1 == 1)
 (kbnd (K14 (x0.1.2.2.1, ()) ()) fun a4 => kbnd (K13 ((0, (a4.1.1, (0, ([], ())))), (a4.1.2.1, ())) ()) fun a5 => some ((a5.1.1, ()), ((x0.1.1, (x0.1.2.1, (a4.2.1, ()))), ())))
 (kbr (x1.1.1 == 2)
 (kbnd (K15 (x0.1.2.2.1, (x1.1.2.2.2.1, ())) ()) fun a6 => kbnd (K13 ((0, (0, (0, ([], ())))), (a6.1.1, ())) ()) fun a7 => some ((a7.1.1, ()), ((x0.1.1, (x0.1.2.1, (a6.2.1, ()))), ())))
 ((kbnd (K16 (x0.1.2.2.1, (x1.1.2.1, (x1.1.2.2.1, ()))) ()) fun a8 => kbr (a8.1.2.2.1 != 0)
 (kbnd (K13 (a8.1.1, (a8.1.2.2.1, ())) ()) fun a9 => some ((a9.1.1, ()), ((x0.1.1, (x0.1.2.1, (a8.2.1, ()))), ())))
 (kbr (cond false true a8.1.2.1)
 (kbnd (K13 (a8.1.1, (a8.1.2.2.1, ())) ()) fun a10 => some ((a10.1.1, ()), ((x0.1.1, (x0.1.2.1, (a8.2.1, ()))), ())))
 (kbnd (K17 ((x0.1.1, (x0.1.2.1, (a8.2.1, ()))), ()) ((x1.1.1, (x1.1.2.1, (x1.1.2.2.1, (x1.1.2.2.2.1, (x1.1.2.2.2.2.1, (x1.1.2.2.2.2.2.1, (x1.1.2.2.2.2.2.2.1, ()))))))), ())) fun a11 => kbnd (K13 (a11.1.1, (a11.1.2.1, ())) ()) fun a12 => kbnd (K18 (a11.2.1.2.2.1, (x1.1.2.1, (x1.1.2.2.1, (a12.1.1, ())))) ()) fun a13 => some ((a12.1.1, ()), ((a11.2.1.1, (a11.2.1.2.1, (a13.2.1, ()))), ()))))))))
theorem kF7 (x0) (x1) : F7 x0 x1 = K7 x0 x1 := by
  unfold F7 K7
  (try simp only [bth_self]) <;> simp only [gdE_rfl, gdE_Tk, bnd_k, gd_k, br_k, jn_k, iter_k, bth_k, nlq_k, ob_k, kF12, kF13, kF14, kF15, kF16, kF17, kF18]
noncomputable def K4 (x0 : Unit) (x1 : Unit) : Option (((Bool) × Unit) × Unit) :=
 kgd ((0 : Nat) < 4) <| kbnd (K5 () ((115#8 :: (101#8 :: (101#8 :: (100#8 :: [])))), ())) fun a2 => kbnd (K7 (a2.1.1, ()) ((1, (0, (0, (0, (0, ([], ([], ()))))))), ())) fun a3 => kbnd (K7 (a3.2.1, ()) ((3, (1, (1, (0, (0, ([], ([], ()))))))), ())) fun a4 => kbnd (K7 (a4.2.1, ()) ((3, (1, (1, (0, (0, ([], ([], ()))))))), ())) fun a5 => kbnd (K7 (a5.2.1, ()) ((3, (1, (2, (0, (0, ([], ([], ()))))))), ())) fun a6 => kgd ((0 : Nat) < 4) <| kbnd (K7 (a6.2.1, ()) ((7, (1, (3, (1, (0, ((116#8 :: (101#8 :: (120#8 :: (116#8 :: [])))), ([], ()))))))), ())) fun a7 => kbnd (K7 (a7.2.1, ()) ((8, (1, (4, (0, (0, (a7.1.1.2.2.2.1, ([], ()))))))), ())) fun a8 => kbnd (K7 (a8.2.1, ()) ((6, (1, (5, (1, (1, ([], ([], ()))))))), ())) fun a9 => kbnd (K7 (a9.2.1, ()) ((8, (1, (6, (0, (0, (a7.1.1.2.2.2.1, ([], ()))))))), ())) fun a10 => kbr (a3.1.1.2.1 == 1)
 (kbr (cond true (a4.1.1.2.1 == 1) false)
 (kbr (cond true (a4.1.1.2.2.1 == 1) false)
 (kbr (cond true (a5.1.1.2.1 == 1) false)
 (kbr (cond true (a6.1.1.2.1 == 2) false)
 (kbr (cond true (a7.1.1.1 == 0) false)
 (kbr (cond true (a8.1.1.2.2.2.1 == [116#8, 101#8, 120#8, 116#8]) false)
 (kbr (cond true (a9.1.1.1 == 0) false)
 (kbr (cond true (a10.1.1.1 == 132) false)
 (some ((cond true ((Nat.cast (List.length a10.1.1.2.2.2.1) : Int) == 0) false, ()), ()))
 (some ((false, ()), ())))
 (some ((false, ()), ())))
 (some ((false, ()), ())))
 (some ((false, ()), ())))
 (some ((false, ()), ())))
 (some ((false, ()), ())))
 (some ((false, ()), ())))
 (some ((false, ()), ())))
 (some ((false, ()), ()))
theorem kF4 (x0) (x1) : F4 x0 x1 = K4 x0 x1 := by
  unfold F4 K4
  (try simp only [bth_self]) <;> simp only [gdE_rfl, gdE_Tk, bnd_k, gd_k, br_k, jn_k, iter_k, bth_k, nlq_k, ob_k, kF5, kF7]
end Go.GX
