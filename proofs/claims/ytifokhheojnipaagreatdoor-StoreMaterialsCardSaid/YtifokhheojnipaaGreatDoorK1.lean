/- The plain functions in words that compute; closed values. -/
import Derived.Test.YtifokhheojnipaaGreatDoorT2
import Derived.KernelRfl
set_option linter.unusedVariables false
set_option linter.unusedSimpArgs false
set_option linter.unnecessarySimpa false
namespace Go.GX
open Go.RowKit Go.SL
set_option linter.unusedVariables false
set_option linter.unusedSimpArgs false
set_option maxRecDepth 100000
set_option maxHeartbeats 4000000
def kbnd {α β : Type} (x : Option α) (f : α → Option β) : Option β := match x with
  | some a => f a
  | none => none
theorem bnd_k {α β : Type} (x : Option α) (f : α → Option β) : bnd x f = kbnd x f := by rw [bnd_eq]; cases x <;> rfl
def kgd {β : Type} (c : Prop) [Decidable c] (x : Option β) : Option β := if c then x else none
theorem gd_k {β : Type} (c : Prop) [Decidable c] (x : Option β) : gd c x = kgd c x := gd_eq c x
def kbr {β : Type} (c : Bool) (x y : Option β) : Option β := cond c x y
theorem br_k {β : Type} (c : Bool) (x y : Option β) : br c x y = kbr c x y := br_eq c x y
def kjn {α β : Type} (j : α → Option β) (f : (α → Option β) → Option β) : Option β := f j
theorem jn_k {α β : Type} (j : α → Option β) (f : (α → Option β) → Option β) : jn j f = kjn j f := jn_e j f
/-- 2 ^ d rounds, and what is behind -/
def kit {α β : Type} (f : α → (α → Option β) → Option β) : Nat → (α → Option β) → α → Option β
  | 0, k => fun a => f a k
  | d + 1, k => kit f d (kit f d k)
theorem kit_eq {α β : Type} (f : α → (α → Option β) → Option β) : ∀ (d m : Nat), itn f (2 ^ d + m) = kit f d (itn f m)
  | 0, m => by rw [Nat.pow_zero, Nat.add_comm]; rfl
  | d + 1, m => by
    rw [show 2 ^ (d + 1) + m = 2 ^ d + (2 ^ d + m) from by rw [Nat.pow_succ]; omega, kit_eq f d, kit_eq f d]; rfl
def kiter {α β : Type} (f : α → (α → Option β) → Option β) (a : α) : Option β := kit f 40 (fun _ => none) a
theorem iter_k {α β : Type} (f : α → (α → Option β) → Option β) (a : α) : iter f a = kiter f a := by
  rw [iter_eq, show fuel = 2 ^ 40 + 0 from by unfold fuel; rfl, kit_eq]; rfl
def kbth {β : Type} [DecidableEq (Option β)] (x y : Option β) : Option β := if x = y then x else none
theorem bth_k {β : Type} [DecidableEq (Option β)] (x y : Option β) : bth x y = kbth x y := by
  unfold kbth
  by_cases h : x = y
  · subst h; rw [bth_self, if_pos rfl]
  · rw [if_neg h, bth_eq]; unfold bth0; rw [if_neg h]
def knlq {β : Type} [DecidableEq (Option β)] (c : Bool) (x y : Option β) : Option β := cond c (kbth x y) y
theorem nlq_k {β : Type} [DecidableEq (Option β)] (c : Bool) (x y : Option β) : nlq c x y = knlq c x y := by rw [nlq_eq, bth_k]; rfl
def kob {α β : Type} (x : Option α) (a : Option β) (f : α → Option β) : Option β := match x with
  | none => a
  | some y => f y
theorem ob_k {α β : Type} (x : Option α) (a : Option β) (f : α → Option β) : ob x a f = kob x a f := by rw [ob_eq]; cases x <;> rfl
instance dqRep : DecidableEq (Int × Int × Int × List (BitVec 8) × Unit) := inferInstance
instance dqVer : DecidableEq (List (List (BitVec 8) × Int × Bool × Unit)) := inferInstance
instance dqRng : DecidableEq (List (Bool × List (List (BitVec 8) × Int × Bool × Unit) × Unit)) := inferInstance
instance dqKey : DecidableEq (List (Bool × List (List (BitVec 8) × Int × Bool × Unit) × Unit) × Unit) := inferInstance
instance dqSea : DecidableEq (List (Int × Int × Int × (Int × Int × Int × List (BitVec 8) × Unit) × Unit)) := inferInstance
instance dqTab : DecidableEq (List (Int × Int × Int × (Int × Int × Int × List (BitVec 8) × Unit) × Unit) × Int × Unit) := inferInstance
instance dqSrc : DecidableEq (List (BitVec 8) × List (BitVec 8) × Int × Unit) := inferInstance
instance dqSto : DecidableEq ((List (BitVec 8) × List (BitVec 8) × Int × Unit) × (List (Bool × List (List (BitVec 8) × Int × Bool × Unit) × Unit) × Unit) × (List (Int × Int × Int × (Int × Int × Int × List (BitVec 8) × Unit) × Unit) × Int × Unit) × Unit) := inferInstance
theorem gdE_Tk {β : Type} (x : Option β) : gdE True x = x := gdE_t trivial x
noncomputable def K201 (x0 : Unit) (x1 : (List (List (BitVec 8))) × Unit) : Option (((List (BitVec 8)) × Unit) × Unit) :=
 kiter (fun (v2 : ((Int) × (Int) × Unit) × Unit) => fun r3 => kbr (decide (v2.1.1 < (Nat.cast (List.length x1.1) : Int)))
 (kgd (0 ≤ v2.1.1) <| kbnd (x1.1[Int.toNat v2.1.1]?) fun a4 => kbr (decide (Go.SL.w64 (v2.1.2.1 + (Nat.cast (List.length a4) : Int)) < 0))
 (none)
 (r3 ((Go.SL.w64 (v2.1.1 + 1), (Go.SL.w64 (v2.1.2.1 + (Nat.cast (List.length a4) : Int)), ())), ())))
 (kjn (fun (v5 : (Unit) × Unit) => kbr (decide (Go.SL.w64 (v2.1.2.1 - 0) > 0))
 (kgd ((0 : Int) ≤ 0) <| kgd ((0 : Nat) ≤ 0) <| kgd ((0 : Nat) ≤ 0) <| kgd (0 ≤ Go.SL.w64 (v2.1.2.1 - 0)) <| kgd (few9 0 (Int.toNat (Go.SL.w64 (v2.1.2.1 - 0)))) <| kgd ((0 : Int) ≤ 0) <| kgd ((0 : Nat) ≤ 0) <| kgd (0 ≤ (List.length (([] ++ List.replicate (Int.toNat (Go.SL.w64 (v2.1.2.1 - 0))) 0#8) : List (BitVec 8)))) <| kgd ((0 : Nat) = 0) <| kgd (0 ≤ (List.length (([] ++ List.replicate (Int.toNat (Go.SL.w64 (v2.1.2.1 - 0))) 0#8) : List (BitVec 8)))) <| kiter (fun (v6 : ((Int) × (List (BitVec 8)) × Unit) × Unit) => fun r7 => kbr (decide (v6.1.1 < (Nat.cast (List.length x1.1) : Int)))
 (kgd (0 ≤ v6.1.1) <| kbnd (x1.1[Int.toNat v6.1.1]?) fun a8 => kgd (few (List.length v6.1.2.1) (List.length a8)) <| r7 ((Go.SL.w64 (v6.1.1 + 1), ((v6.1.2.1 ++ a8), ())), ()))
 (some ((v6.1.2.1, ()), ()))) ((0, (List.take 0 ([] ++ List.replicate (Int.toNat (Go.SL.w64 (v2.1.2.1 - 0))) 0#8), ())), ()))
 (kiter (fun (v9 : ((Int) × (List (BitVec 8)) × Unit) × Unit) => fun r10 => kbr (decide (v9.1.1 < (Nat.cast (List.length x1.1) : Int)))
 (kgd (0 ≤ v9.1.1) <| kbnd (x1.1[Int.toNat v9.1.1]?) fun a11 => kgd (few (List.length v9.1.2.1) (List.length a11)) <| r10 ((Go.SL.w64 (v9.1.1 + 1), ((v9.1.2.1 ++ a11), ())), ()))
 (some ((v9.1.2.1, ()), ()))) ((0, ([], ())), ())))
 (fun j12 => kbr (decide (v2.1.2.1 < 0))
 (none)
 (j12 ((), ()))))) ((0, (0, ())), ())
theorem kF201 (x0) (x1) : F201 x0 x1 = K201 x0 x1 := by
  unfold F201 K201
  (try simp only [bth_self]) <;> simp only [gdE_rfl, gdE_Tk, bnd_k, gd_k, br_k, jn_k, iter_k, bth_k, nlq_k, ob_k]
noncomputable def K171 (x0 : Unit) (x1 : (List (BitVec 8)) × Unit) : Option (((List (BitVec 8)) × Unit) × Unit) :=
 knlq (decide ((List.length x1.1) = 0))
 (some (([], ()), ()))
 (kgd (few 0 (List.length x1.1)) <| some ((([] ++ x1.1), ()), ()))
theorem kF171 (x0) (x1) : F171 x0 x1 = K171 x0 x1 := by
  unfold F171 K171
  (try simp only [bth_self]) <;> simp only [gdE_rfl, gdE_Tk, bnd_k, gd_k, br_k, jn_k, iter_k, bth_k, nlq_k, ob_k]
noncomputable def K253 (x0 : Unit) (x1 : Unit) : Option (((List (BitVec 32)) × Unit) × Unit) :=
 some ((List.set (List.set (List.set (List.set (List.set (List.set (List.set (List.set (List.replicate 8 0#32) 0 1779033703#32) 1 3144134277#32) 2 1013904242#32) 3 2773480762#32) 4 1359893119#32) 5 2600822924#32) 6 528734635#32) 7 1541459225#32, ()), ())
theorem kF253 (x0) (x1) : F253 x0 x1 = K253 x0 x1 := by
  unfold F253 K253
  (try simp only [bth_self]) <;> simp only [gdE_rfl, gdE_Tk, bnd_k, gd_k, br_k, jn_k, iter_k, bth_k, nlq_k, ob_k]
noncomputable def K269 (x0 : (BitVec 32) × (Int) × Unit) (x1 : Unit) : Option (((BitVec 32) × Unit) × Unit) :=
 some ((((x0.1 <<< BitVec.toNat (BitVec.ofInt 64 x0.2.1 &&& 31#64)) ||| (x0.1 >>> BitVec.toNat (32#64 - (BitVec.ofInt 64 x0.2.1 &&& 31#64)))), ()), ())
theorem kF269 (x0) (x1) : F269 x0 x1 = K269 x0 x1 := by
  unfold F269 K269
  (try simp only [bth_self]) <;> simp only [gdE_rfl, gdE_Tk, bnd_k, gd_k, br_k, jn_k, iter_k, bth_k, nlq_k, ob_k]
noncomputable def K267 (x0 : (BitVec 32) × (Int) × Unit) (x1 : Unit) : Option (((BitVec 32) × Unit) × Unit) :=
 kbnd (K269 (x0.1, (Go.SL.w64 (0 - x0.2.1), ())) ()) fun a2 => some ((a2.1.1, ()), ())
theorem kF267 (x0) (x1) : F267 x0 x1 = K267 x0 x1 := by
  unfold F267 K267
  (try simp only [bth_self]) <;> simp only [gdE_rfl, gdE_Tk, bnd_k, gd_k, br_k, jn_k, iter_k, bth_k, nlq_k, ob_k, kF269]
noncomputable def K254 (x0 : (List (BitVec 32)) × (List (BitVec 8)) × Unit) (x1 : Unit) : Option (((List (BitVec 32)) × Unit) × Unit) :=
 kiter (fun (v2 : ((Int) × Unit) × (List (BitVec 32)) × Unit) => fun r3 => kbr (decide (v2.1.1 < 64))
 (kbr (decide (v2.1.1 < 16))
 (kgd (0 ≤ Go.SL.w64 (4 * v2.1.1)) <| kgd (Int.toNat (Go.SL.w64 (4 * v2.1.1)) < 64) <| kbnd (x0.2.1[Int.toNat (Go.SL.w64 (4 * v2.1.1))]?) fun a4 => kgd (0 ≤ Go.SL.w64 (Go.SL.w64 (4 * v2.1.1) + 1)) <| kgd (Int.toNat (Go.SL.w64 (Go.SL.w64 (4 * v2.1.1) + 1)) < 64) <| kbnd (x0.2.1[Int.toNat (Go.SL.w64 (Go.SL.w64 (4 * v2.1.1) + 1))]?) fun a5 => kgd (0 ≤ Go.SL.w64 (Go.SL.w64 (4 * v2.1.1) + 2)) <| kgd (Int.toNat (Go.SL.w64 (Go.SL.w64 (4 * v2.1.1) + 2)) < 64) <| kbnd (x0.2.1[Int.toNat (Go.SL.w64 (Go.SL.w64 (4 * v2.1.1) + 2))]?) fun a6 => kgd (0 ≤ Go.SL.w64 (Go.SL.w64 (4 * v2.1.1) + 3)) <| kgd (Int.toNat (Go.SL.w64 (Go.SL.w64 (4 * v2.1.1) + 3)) < 64) <| kbnd (x0.2.1[Int.toNat (Go.SL.w64 (Go.SL.w64 (4 * v2.1.1) + 3))]?) fun a7 => kgd (0 ≤ v2.1.1) <| kgd (Int.toNat v2.1.1 < 64) <| kgd (Int.toNat v2.1.1 < List.length v2.2.1) <| r3 ((Go.SL.w64 (v2.1.1 + 1), ()), (List.set v2.2.1 (Int.toNat v2.1.1) ((((BitVec.setWidth 32 a4 <<< 24) ||| (BitVec.setWidth 32 a5 <<< 16)) ||| (BitVec.setWidth 32 a6 <<< 8)) ||| BitVec.setWidth 32 a7), ())))
 (kgd (0 ≤ Go.SL.w64 (v2.1.1 - 15)) <| kgd (Int.toNat (Go.SL.w64 (v2.1.1 - 15)) < 64) <| kbnd (v2.2.1[Int.toNat (Go.SL.w64 (v2.1.1 - 15))]?) fun a8 => kgd (0 ≤ Go.SL.w64 (v2.1.1 - 2)) <| kgd (Int.toNat (Go.SL.w64 (v2.1.1 - 2)) < 64) <| kbnd (v2.2.1[Int.toNat (Go.SL.w64 (v2.1.1 - 2))]?) fun a9 => kgd (0 ≤ Go.SL.w64 (v2.1.1 - 16)) <| kgd (Int.toNat (Go.SL.w64 (v2.1.1 - 16)) < 64) <| kbnd (v2.2.1[Int.toNat (Go.SL.w64 (v2.1.1 - 16))]?) fun a10 => kgd (0 ≤ Go.SL.w64 (v2.1.1 - 7)) <| kgd (Int.toNat (Go.SL.w64 (v2.1.1 - 7)) < 64) <| kbnd (v2.2.1[Int.toNat (Go.SL.w64 (v2.1.1 - 7))]?) fun a11 => kbnd (K267 (a8, (7, ())) ()) fun a12 => kbnd (K267 (a8, (18, ())) ()) fun a13 => kbnd (K267 (a9, (17, ())) ()) fun a14 => kbnd (K267 (a9, (19, ())) ()) fun a15 => kgd (0 ≤ v2.1.1) <| kgd (Int.toNat v2.1.1 < 64) <| kgd (Int.toNat v2.1.1 < List.length v2.2.1) <| r3 ((Go.SL.w64 (v2.1.1 + 1), ()), (List.set v2.2.1 (Int.toNat v2.1.1) (((a10 + a11) + ((a12.1.1 ^^^ a13.1.1) ^^^ (a8 >>> 3))) + ((a14.1.1 ^^^ a15.1.1) ^^^ (a9 >>> 10))), ()))))
 (kgd ((0 : Int) ≤ 0) <| kgd (0 < 8) <| kbnd x0.1[0]? fun a16 => kgd ((0 : Int) ≤ 1) <| kgd (1 < 8) <| kbnd x0.1[1]? fun a17 => kgd ((0 : Int) ≤ 2) <| kgd (2 < 8) <| kbnd x0.1[2]? fun a18 => kgd ((0 : Int) ≤ 3) <| kgd (3 < 8) <| kbnd x0.1[3]? fun a19 => kgd ((0 : Int) ≤ 4) <| kgd (4 < 8) <| kbnd x0.1[4]? fun a20 => kgd ((0 : Int) ≤ 5) <| kgd (5 < 8) <| kbnd x0.1[5]? fun a21 => kgd ((0 : Int) ≤ 6) <| kgd (6 < 8) <| kbnd x0.1[6]? fun a22 => kgd ((0 : Int) ≤ 7) <| kgd (7 < 8) <| kbnd x0.1[7]? fun a23 => kiter (fun (v24 : ((Int) × (BitVec 32) × (BitVec 32) × (BitVec 32) × (BitVec 32) × (BitVec 32) × (BitVec 32) × (BitVec 32) × (BitVec 32) × Unit) × Unit) => fun r25 => kbr (decide (v24.1.1 < 64))
 (kgd (0 ≤ v24.1.1) <| kbnd (shaAdd[Int.toNat v24.1.1]?) fun a26 => kgd (0 ≤ v24.1.1) <| kgd (Int.toNat v24.1.1 < 64) <| kbnd (v2.2.1[Int.toNat v24.1.1]?) fun a27 => kbnd (K267 (v24.1.2.2.2.2.1, (6, ())) ()) fun a28 => kbnd (K267 (v24.1.2.2.2.2.1, (11, ())) ()) fun a29 => kbnd (K267 (v24.1.2.2.2.2.1, (25, ())) ()) fun a30 => kbnd (K267 (v24.1.2.2.2.2.2.2.2.2.1, (2, ())) ()) fun a31 => kbnd (K267 (v24.1.2.2.2.2.2.2.2.2.1, (13, ())) ()) fun a32 => kbnd (K267 (v24.1.2.2.2.2.2.2.2.2.1, (22, ())) ()) fun a33 => r25 ((Go.SL.w64 (v24.1.1 + 1), (v24.1.2.2.1, (v24.1.2.2.2.1, (v24.1.2.2.2.2.1, ((v24.1.2.2.2.2.2.1 + ((((v24.1.2.1 + ((a28.1.1 ^^^ a29.1.1) ^^^ a30.1.1)) + (v24.1.2.2.1 ^^^ (v24.1.2.2.2.2.1 &&& (v24.1.2.2.2.1 ^^^ v24.1.2.2.1)))) + a26) + a27)), (v24.1.2.2.2.2.2.2.1, (v24.1.2.2.2.2.2.2.2.1, (v24.1.2.2.2.2.2.2.2.2.1, ((((((v24.1.2.1 + ((a28.1.1 ^^^ a29.1.1) ^^^ a30.1.1)) + (v24.1.2.2.1 ^^^ (v24.1.2.2.2.2.1 &&& (v24.1.2.2.2.1 ^^^ v24.1.2.2.1)))) + a26) + a27) + (((a31.1.1 ^^^ a32.1.1) ^^^ a33.1.1) + ((v24.1.2.2.2.2.2.2.2.2.1 &&& v24.1.2.2.2.2.2.2.2.1) ||| (v24.1.2.2.2.2.2.2.1 &&& (v24.1.2.2.2.2.2.2.2.2.1 ||| v24.1.2.2.2.2.2.2.2.1))))), ()))))))))), ()))
 (kiter (fun (v34 : ((Int) × Unit) × (List (BitVec 32)) × Unit) => fun r35 => kbr (decide (v34.1.1 < 8))
 (kgd (0 ≤ v34.1.1) <| kbnd ((List.set (List.set (List.set (List.set (List.set (List.set (List.set (List.set (List.replicate 8 0#32) 0 v24.1.2.2.2.2.2.2.2.2.1) 1 v24.1.2.2.2.2.2.2.2.1) 2 v24.1.2.2.2.2.2.2.1) 3 v24.1.2.2.2.2.2.1) 4 v24.1.2.2.2.2.1) 5 v24.1.2.2.2.1) 6 v24.1.2.2.1) 7 v24.1.2.1)[Int.toNat v34.1.1]?) fun a36 => kgd (0 ≤ v34.1.1) <| kgd (Int.toNat v34.1.1 < 8) <| kbnd (v34.2.1[Int.toNat v34.1.1]?) fun a37 => kgd (0 ≤ v34.1.1) <| kgd (Int.toNat v34.1.1 < 8) <| kgd (Int.toNat v34.1.1 < List.length v34.2.1) <| r35 ((Go.SL.w64 (v34.1.1 + 1), ()), (List.set v34.2.1 (Int.toNat v34.1.1) (a37 + a36), ())))
 (some ((v34.2.1, ()), ()))) ((0, ()), (x0.1, ())))) ((0, (a23, (a22, (a21, (a20, (a19, (a18, (a17, (a16, ()))))))))), ()))) ((0, ()), (List.replicate 64 0#32, ()))
theorem kF254 (x0) (x1) : F254 x0 x1 = K254 x0 x1 := by
  unfold F254 K254
  (try simp only [bth_self]) <;> simp only [gdE_rfl, gdE_Tk, bnd_k, gd_k, br_k, jn_k, iter_k, bth_k, nlq_k, ob_k, kF267]
noncomputable def K235 (x0 : Unit) (x1 : (List (BitVec 8)) × Unit) : Option (((List (BitVec 8)) × Unit) × Unit) :=
 kbnd (K171 () (x1.1, ())) fun a2 => kgd (few (List.length a2.1.1) 1) <| kgd ((64 : Int) ≠ 0) <| kgd ((64 : Int) ≠ 0) <| kgd (0 ≤ Int.tmod (Go.SL.w64 (120 - Int.tmod (Nat.cast (List.length ((a2.1.1 ++ (128#8 :: [])) : List (BitVec 8))) : Int) 64)) 64) <| kgd (few9 (List.length ((a2.1.1 ++ (128#8 :: [])) : List (BitVec 8))) (Int.toNat (Int.tmod (Go.SL.w64 (120 - Int.tmod (Nat.cast (List.length ((a2.1.1 ++ (128#8 :: [])) : List (BitVec 8))) : Int) 64)) 64))) <| kiter (fun (v3 : ((Int) × (List (BitVec 8)) × Unit) × Unit) => fun r4 => kbr (decide (v3.1.1 < 8))
 (kgd (0 ≤ Go.SL.w64 (56 - Go.SL.w64 (8 * v3.1.1))) <| kgd (few (List.length v3.1.2.1) (List.length ((BitVec.ofInt 8 (Go.SL.ishr64 (Go.SL.w64 (8 * (Nat.cast (List.length x1.1) : Int))) (Int.toNat (Go.SL.w64 (56 - Go.SL.w64 (8 * v3.1.1))))) :: []) : List (BitVec 8)))) <| r4 ((Go.SL.w64 (v3.1.1 + 1), ((v3.1.2.1 ++ (BitVec.ofInt 8 (Go.SL.ishr64 (Go.SL.w64 (8 * (Nat.cast (List.length x1.1) : Int))) (Int.toNat (Go.SL.w64 (56 - Go.SL.w64 (8 * v3.1.1))))) :: [])), ())), ()))
 (kbnd (K253 () ()) fun a5 => kiter (fun (v6 : ((List (BitVec 8)) × Unit) × (List (BitVec 32)) × Unit) => fun r7 => kbr (decide ((Nat.cast (List.length v6.1.1) : Int) > 0))
 (kgd (64 ≤ (List.length v6.1.1)) <| kbnd (K254 (v6.2.1, (List.take 64 v6.1.1, ())) ()) fun a8 => kgd ((0 : Int) ≤ 64) <| kgd (64 ≤ (List.length v6.1.1)) <| kgd ((List.length v6.1.1) ≤ (List.length v6.1.1)) <| r7 ((List.drop 64 (List.take (List.length v6.1.1) v6.1.1), ()), (a8.1.1, ())))
 (kiter (fun (v9 : ((Int) × Unit) × (List (BitVec 8)) × Unit) => fun r10 => kbr (decide (v9.1.1 < 32))
 (kgd ((4 : Int) ≠ 0) <| kgd (0 ≤ Go.SL.w64 (Int.tdiv v9.1.1 4)) <| kgd (Int.toNat (Go.SL.w64 (Int.tdiv v9.1.1 4)) < 8) <| kbnd (v6.2.1[Int.toNat (Go.SL.w64 (Int.tdiv v9.1.1 4))]?) fun a11 => kgd ((4 : Int) ≠ 0) <| kgd (0 ≤ Go.SL.w64 (24 - Go.SL.w64 (8 * Int.tmod v9.1.1 4))) <| kgd (0 ≤ v9.1.1) <| kgd (Int.toNat v9.1.1 < 32) <| kgd (Int.toNat v9.1.1 < (List.length v9.2.1)) <| r10 ((Go.SL.w64 (v9.1.1 + 1), ()), (List.set v9.2.1 (Int.toNat v9.1.1) (BitVec.setWidth 8 (a11 >>> Int.toNat (Go.SL.w64 (24 - Go.SL.w64 (8 * Int.tmod v9.1.1 4))))), ())))
 (some ((v9.2.1, ()), ()))) ((0, ()), (List.replicate 32 0#8, ())))) ((v3.1.2.1, ()), (a5.1.1, ())))) ((0, (((a2.1.1 ++ (128#8 :: [])) ++ List.replicate (Int.toNat (Int.tmod (Go.SL.w64 (120 - Int.tmod (Nat.cast (List.length ((a2.1.1 ++ (128#8 :: [])) : List (BitVec 8))) : Int) 64)) 64)) 0#8), ())), ())
theorem kF235 (x0) (x1) : F235 x0 x1 = K235 x0 x1 := by
  unfold F235 K235
  (try simp only [bth_self]) <;> simp only [gdE_rfl, gdE_Tk, bnd_k, gd_k, br_k, jn_k, iter_k, bth_k, nlq_k, ob_k, kF171, kF253, kF254]
noncomputable def K214 (x0 : Unit) (x1 : (List (BitVec 8)) × (List (BitVec 8)) × Unit) : Option (((List (BitVec 8)) × Unit) × Unit) :=
 kjn (fun (v2 : ((List (BitVec 8)) × Unit) × Unit) => kgd ((0 : Nat) ≤ 64) <| kgd ((64 : Nat) ≤ 64) <| kgd ((0 : Nat) < 64) <| kgd ((64 : Nat) ≤ 64) <| kiter (fun (v3 : ((Int) × Unit) × (List (BitVec 8)) × (List (BitVec 8)) × Unit) => fun r4 => kbr (decide (v3.1.1 < 64))
 (kgd (0 ≤ v3.1.1) <| kgd (Int.toNat v3.1.1 < 64) <| kbnd (v3.2.2.1[Int.toNat v3.1.1]?) fun a5 => kgd (0 ≤ v3.1.1) <| kgd (Int.toNat v3.1.1 < 64) <| kgd (Int.toNat v3.1.1 < (List.length v3.2.2.1)) <| kgd (0 ≤ v3.1.1) <| kgd (Int.toNat v3.1.1 < 64) <| kbnd (v3.2.1[Int.toNat v3.1.1]?) fun a6 => kgd (0 ≤ v3.1.1) <| kgd (Int.toNat v3.1.1 < 64) <| kgd (Int.toNat v3.1.1 < (List.length v3.2.1)) <| r4 ((Go.SL.w64 (v3.1.1 + 1), ()), (List.set v3.2.1 (Int.toNat v3.1.1) (a6 ^^^ 92#8), (List.set v3.2.2.1 (Int.toNat v3.1.1) (a5 ^^^ 54#8), ()))))
 (kgd ((0 : Nat) ≤ 64) <| kgd ((64 : Nat) ≤ 64) <| kgd (64 ≤ (List.length v3.2.2.1)) <| kbnd (K201 () ((List.take 64 (List.drop 0 v3.2.2.1) :: (x1.2.1 :: [])), ())) fun a7 => kbnd (K235 () (a7.1.1, ())) fun a8 => kgd ((0 : Nat) ≤ 64) <| kgd ((64 : Nat) ≤ 64) <| kgd ((0 : Nat) ≤ 32) <| kgd ((32 : Nat) ≤ 32) <| kgd (64 ≤ (List.length v3.2.1)) <| kgd (32 ≤ (List.length a8.1.1)) <| kbnd (K201 () ((List.take 64 (List.drop 0 v3.2.1) :: (List.take 32 (List.drop 0 a8.1.1) :: [])), ())) fun a9 => kbnd (K235 () (a9.1.1, ())) fun a10 => some ((a10.1.1, ()), ()))) ((0, ()), (ovl (List.replicate 64 0#8) 0 (List.take 64 v2.1.1), (ovl (List.replicate 64 0#8) 0 (List.take 64 v2.1.1), ()))))
 (fun j11 => kbr (decide ((Nat.cast (List.length x1.1) : Int) > 64))
 (kbnd (K235 () (x1.1, ())) fun a12 => kgd ((0 : Nat) ≤ 32) <| kgd ((32 : Nat) ≤ 32) <| kgd (32 ≤ (List.length a12.1.1)) <| j11 ((List.take 32 (List.drop 0 a12.1.1), ()), ()))
 (j11 ((x1.1, ()), ())))
theorem kF214 (x0) (x1) : F214 x0 x1 = K214 x0 x1 := by
  unfold F214 K214
  (try simp only [bth_self]) <;> simp only [gdE_rfl, gdE_Tk, bnd_k, gd_k, br_k, jn_k, iter_k, bth_k, nlq_k, ob_k, kF201, kF235]
noncomputable def K168 (x0 : ((List (BitVec 8)) × (List (BitVec 8)) × (Int) × Unit) × Unit) (x1 : (List (BitVec 8)) × Unit) : Option ((Unit) × ((List (BitVec 8)) × (List (BitVec 8)) × (Int) × Unit) × Unit) :=
 kgd ((0 : Nat) ≤ 32) <| kgd ((32 : Nat) ≤ 32) <| kgd ((0 : Nat) ≤ 32) <| kgd ((32 : Nat) ≤ 32) <| kgd (32 ≤ (List.length x0.1.2.1)) <| kbnd (K201 () ((List.take 32 (List.drop 0 x0.1.2.1) :: ((0#8 :: []) :: (x1.1 :: []))), ())) fun a2 => kgd (32 ≤ (List.length x0.1.1)) <| kbnd (K214 () (List.take 32 (List.drop 0 x0.1.1), (a2.1.1, ()))) fun a3 => kgd ((0 : Nat) ≤ 32) <| kgd ((32 : Nat) ≤ 32) <| kgd ((0 : Nat) ≤ 32) <| kgd ((32 : Nat) ≤ 32) <| kgd (32 ≤ (List.length x0.1.2.1)) <| kbnd (K201 () ((List.take 32 (List.drop 0 x0.1.2.1) :: []), ())) fun a4 => kgd (32 ≤ (List.length a3.1.1)) <| kbnd (K214 () (List.take 32 (List.drop 0 a3.1.1), (a4.1.1, ()))) fun a5 => kbr (decide ((Nat.cast (List.length x1.1) : Int) > 0))
 (kgd ((0 : Nat) ≤ 32) <| kgd ((32 : Nat) ≤ 32) <| kgd ((0 : Nat) ≤ 32) <| kgd ((32 : Nat) ≤ 32) <| kgd (32 ≤ (List.length a5.1.1)) <| kbnd (K201 () ((List.take 32 (List.drop 0 a5.1.1) :: ((1#8 :: []) :: (x1.1 :: []))), ())) fun a6 => kgd (32 ≤ (List.length a3.1.1)) <| kbnd (K214 () (List.take 32 (List.drop 0 a3.1.1), (a6.1.1, ()))) fun a7 => kgd ((0 : Nat) ≤ 32) <| kgd ((32 : Nat) ≤ 32) <| kgd ((0 : Nat) ≤ 32) <| kgd ((32 : Nat) ≤ 32) <| kgd (32 ≤ (List.length a5.1.1)) <| kbnd (K201 () ((List.take 32 (List.drop 0 a5.1.1) :: []), ())) fun a8 => kgd (32 ≤ (List.length a7.1.1)) <| kbnd (K214 () (List.take 32 (List.drop 0 a7.1.1), (a8.1.1, ()))) fun a9 => some ((), ((a7.1.1, (a9.1.1, (x0.1.2.2.1, ()))), ())))
 (some ((), ((a3.1.1, (a5.1.1, (x0.1.2.2.1, ()))), ())))
theorem kF168 (x0) (x1) : F168 x0 x1 = K168 x0 x1 := by
  unfold F168 K168
  (try simp only [bth_self]) <;> simp only [gdE_rfl, gdE_Tk, bnd_k, gd_k, br_k, jn_k, iter_k, bth_k, nlq_k, ob_k, kF201, kF214]
noncomputable def K106 (x0 : ((List (BitVec 8)) × (List (BitVec 8)) × (Int) × Unit) × Unit) (x1 : (List (BitVec 8)) × Unit) : Option ((Unit) × ((List (BitVec 8)) × (List (BitVec 8)) × (Int) × Unit) × Unit) :=
 kbnd (K168 (x0.1, ()) (x1.1, ())) fun a2 => some ((), ((a2.2.1.1, (a2.2.1.2.1, (1, ()))), ()))
theorem kF106 (x0) (x1) : F106 x0 x1 = K106 x0 x1 := by
  unfold F106 K106
  (try simp only [bth_self]) <;> simp only [gdE_rfl, gdE_Tk, bnd_k, gd_k, br_k, jn_k, iter_k, bth_k, nlq_k, ob_k, kF168]
noncomputable def K42 (x0 : Unit) (x1 : (List (BitVec 8)) × Unit) : Option ((((List (BitVec 8)) × (List (BitVec 8)) × (Int) × Unit) × Unit) × Unit) :=
 kiter (fun (v2 : ((Int) × Unit) × ((List (BitVec 8)) × (List (BitVec 8)) × (Int) × Unit) × Unit) => fun r3 => kbr (decide (v2.1.1 < 32))
 (kgd (0 ≤ v2.1.1) <| kgd (Int.toNat v2.1.1 < 32) <| kgd (Int.toNat v2.1.1 < (List.length v2.2.1.2.1)) <| r3 ((Go.SL.w64 (v2.1.1 + 1), ()), ((v2.2.1.1, (List.set v2.2.1.2.1 (Int.toNat v2.1.1) 1#8, (v2.2.1.2.2.1, ()))), ())))
 (kbnd (K106 ((v2.2.1.1, (v2.2.1.2.1, (v2.2.1.2.2.1, ()))), ()) (x1.1, ())) fun a4 => some ((a4.2.1, ()), ()))) ((0, ()), ((List.replicate 32 0#8, (List.replicate 32 0#8, (0, ()))), ()))
theorem kF42 (x0) (x1) : F42 x0 x1 = K42 x0 x1 := by
  unfold F42 K42
  (try simp only [bth_self]) <;> simp only [gdE_rfl, gdE_Tk, bnd_k, gd_k, br_k, jn_k, iter_k, bth_k, nlq_k, ob_k, kF106]
noncomputable def K43 (x0 : Unit) (x1 : Unit) : Option ((((List ((Bool) × (List ((List (BitVec 8)) × (Int) × (Bool) × Unit)) × Unit)) × Unit) × Unit) × Unit) :=
 some ((([], ()), ()), ())
theorem kF43 (x0) (x1) : F43 x0 x1 = K43 x0 x1 := by
  unfold F43 K43
  (try simp only [bth_self]) <;> simp only [gdE_rfl, gdE_Tk, bnd_k, gd_k, br_k, jn_k, iter_k, bth_k, nlq_k, ob_k]
noncomputable def K44 (x0 : Unit) (x1 : Unit) : Option ((((List ((Int) × (Int) × (Int) × ((Int) × (Int) × (Int) × (List (BitVec 8)) × Unit) × Unit)) × (Int) × Unit) × Unit) × Unit) :=
 some ((([], (1, ())), ()), ())
theorem kF44 (x0) (x1) : F44 x0 x1 = K44 x0 x1 := by
  unfold F44 K44
  (try simp only [bth_self]) <;> simp only [gdE_rfl, gdE_Tk, bnd_k, gd_k, br_k, jn_k, iter_k, bth_k, nlq_k, ob_k]
noncomputable def K15 (x0 : Unit) (x1 : (List (BitVec 8)) × Unit) : Option (((((List (BitVec 8)) × (List (BitVec 8)) × (Int) × Unit) × ((List ((Bool) × (List ((List (BitVec 8)) × (Int) × (Bool) × Unit)) × Unit)) × Unit) × ((List ((Int) × (Int) × (Int) × ((Int) × (Int) × (Int) × (List (BitVec 8)) × Unit) × Unit)) × (Int) × Unit) × Unit) × Unit) × Unit) :=
 kbnd (K42 () (x1.1, ())) fun a2 => kbnd (K43 () ()) fun a3 => kbnd (K44 () ()) fun a4 => some (((a2.1.1, (a3.1.1, (a4.1.1, ()))), ()), ())
theorem kF15 (x0) (x1) : F15 x0 x1 = K15 x0 x1 := by
  unfold F15 K15
  (try simp only [bth_self]) <;> simp only [gdE_rfl, gdE_Tk, bnd_k, gd_k, br_k, jn_k, iter_k, bth_k, nlq_k, ob_k, kF42, kF43, kF44]
noncomputable def K111 (x0 : (Int) × (Int) × (Int) × Unit) (x1 : Unit) : Option (((Bool) × Unit) × Unit) :=
 kbr (decide (x0.1 ≥ x0.2.1))
 (some ((cond true (decide (x0.1 ≤ x0.2.2.1)) false, ()), ()))
 (some ((false, ()), ()))
theorem kF111 (x0) (x1) : F111 x0 x1 = K111 x0 x1 := by
  unfold F111 K111
  (try simp only [bth_self]) <;> simp only [gdE_rfl, gdE_Tk, bnd_k, gd_k, br_k, jn_k, iter_k, bth_k, nlq_k, ob_k]
noncomputable def K47 (x0 : Unit) (x1 : ((Int) × (Int) × (Int) × (Int) × (Int) × (List (BitVec 8)) × (List (BitVec 8)) × Unit) × Unit) : Option (((Int) × Unit) × Unit) :=
 kjn (fun (v2 : (Unit) × ((Int) × (Int) × (Int) × (Int) × (Int) × (List (BitVec 8)) × (List (BitVec 8)) × Unit) × (Bool) × Unit) => kjn (fun (v3 : (Unit) × ((Int) × (Int) × (Int) × (Int) × (Int) × (List (BitVec 8)) × (List (BitVec 8)) × Unit) × (Bool) × Unit) => kbr (!v3.2.2.1)
 (some ((1, ()), ()))
 (kbr (cond false true (v3.2.1.2.1 != 0))
 (some ((1, ()), ()))
 (kbr (cond false true (v3.2.1.2.2.1 != 0))
 (some ((1, ()), ()))
 (kbr (cond false true (v3.2.1.2.2.2.1 != 0))
 (some ((1, ()), ()))
 (kbr (cond false true (v3.2.1.2.2.2.2.1 != 0))
 (some ((1, ()), ()))
 (kbr (cond false true (decide ((Nat.cast (List.length v3.2.1.2.2.2.2.2.1) : Int) > 0)))
 (some ((1, ()), ()))
 (kbr (cond false true (decide ((Nat.cast (List.length v3.2.1.2.2.2.2.2.2.1) : Int) > 0)))
 (some ((1, ()), ()))
 (some ((0, ()), ())))))))))
 (fun j4 => kjn (fun (v5 : ((Bool) × Unit) × Unit) => kbr v5.1.1
 (j4 ((), ((v2.2.1.1, (v2.2.1.2.1, (v2.2.1.2.2.1, (v2.2.1.2.2.2.1, (v2.2.1.2.2.2.2.1, (v2.2.1.2.2.2.2.2.1, (v2.2.1.2.2.2.2.2.2.1, ()))))))), (v2.2.2.1, ()))))
 (kjn (fun (v6 : ((Bool) × Unit) × Unit) => kbr v6.1.1
 (kbnd (K111 (x1.1.2.2.2.1, (1, (1099511627776, ()))) ()) fun a7 => kbr v2.2.2.1
 (j4 ((), ((v2.2.1.1, (v2.2.1.2.1, (v2.2.1.2.2.1, (0, (v2.2.1.2.2.2.2.1, (v2.2.1.2.2.2.2.2.1, (v2.2.1.2.2.2.2.2.2.1, ()))))))), (cond true a7.1.1 false, ()))))
 (j4 ((), ((v2.2.1.1, (v2.2.1.2.1, (v2.2.1.2.2.1, (0, (v2.2.1.2.2.2.2.1, (v2.2.1.2.2.2.2.2.1, (v2.2.1.2.2.2.2.2.2.1, ()))))))), (false, ())))))
 (kbr (x1.1.1 == 5)
 (kbnd (K111 (x1.1.2.2.2.1, (1, (1099511627776, ()))) ()) fun a8 => kbr v2.2.2.1
 (kbnd (K111 (x1.1.2.2.2.2.1, (0, (1, ()))) ()) fun a9 => kbr (cond true a8.1.1 false)
 (j4 ((), ((v2.2.1.1, (v2.2.1.2.1, (v2.2.1.2.2.1, (0, (0, (v2.2.1.2.2.2.2.2.1, (v2.2.1.2.2.2.2.2.2.1, ()))))))), (cond true a9.1.1 false, ()))))
 (j4 ((), ((v2.2.1.1, (v2.2.1.2.1, (v2.2.1.2.2.1, (0, (0, (v2.2.1.2.2.2.2.2.1, (v2.2.1.2.2.2.2.2.2.1, ()))))))), (false, ())))))
 (kbnd (K111 (x1.1.2.2.2.2.1, (0, (1, ()))) ()) fun a10 => j4 ((), ((v2.2.1.1, (v2.2.1.2.1, (v2.2.1.2.2.1, (0, (0, (v2.2.1.2.2.2.2.2.1, (v2.2.1.2.2.2.2.2.2.1, ()))))))), (false, ())))))
 (kbr (x1.1.1 == 6)
 (kbnd (K111 (x1.1.2.2.2.1, (1, (1099511627776, ()))) ()) fun a11 => kbr v2.2.2.1
 (kbr (cond true a11.1.1 false)
 (j4 ((), ((v2.2.1.1, (v2.2.1.2.1, (v2.2.1.2.2.1, (0, (0, (v2.2.1.2.2.2.2.2.1, (v2.2.1.2.2.2.2.2.2.1, ()))))))), (cond true (decide (x1.1.2.2.2.2.1 ≥ 1)) false, ()))))
 (j4 ((), ((v2.2.1.1, (v2.2.1.2.1, (v2.2.1.2.2.1, (0, (0, (v2.2.1.2.2.2.2.2.1, (v2.2.1.2.2.2.2.2.2.1, ()))))))), (false, ())))))
 (j4 ((), ((v2.2.1.1, (v2.2.1.2.1, (v2.2.1.2.2.1, (0, (0, (v2.2.1.2.2.2.2.2.1, (v2.2.1.2.2.2.2.2.2.1, ()))))))), (false, ())))))
 (kbr (x1.1.1 == 7)
 (kbnd (K111 (x1.1.2.2.2.1, (1, (1099511627776, ()))) ()) fun a12 => kbr v2.2.2.1
 (kbnd (K111 ((Nat.cast (List.length x1.1.2.2.2.2.2.1) : Int), (0, (64, ()))) ()) fun a13 => kbr (cond true a12.1.1 false)
 (kbr (cond true a13.1.1 false)
 (j4 ((), ((v2.2.1.1, (v2.2.1.2.1, (v2.2.1.2.2.1, (0, (v2.2.1.2.2.2.2.1, ([], ([], ()))))))), (cond true (decide ((Nat.cast (List.length x1.1.2.2.2.2.2.2.1) : Int) ≤ 32)) false, ()))))
 (j4 ((), ((v2.2.1.1, (v2.2.1.2.1, (v2.2.1.2.2.1, (0, (v2.2.1.2.2.2.2.1, ([], ([], ()))))))), (false, ())))))
 (j4 ((), ((v2.2.1.1, (v2.2.1.2.1, (v2.2.1.2.2.1, (0, (v2.2.1.2.2.2.2.1, ([], ([], ()))))))), (false, ())))))
 (kbnd (K111 ((Nat.cast (List.length x1.1.2.2.2.2.2.1) : Int), (0, (64, ()))) ()) fun a14 => j4 ((), ((v2.2.1.1, (v2.2.1.2.1, (v2.2.1.2.2.1, (0, (v2.2.1.2.2.2.2.1, ([], ([], ()))))))), (false, ())))))
 (kjn (fun (v15 : ((Bool) × Unit) × Unit) => kbr v15.1.1
 (kbnd (K111 ((Nat.cast (List.length x1.1.2.2.2.2.2.1) : Int), (0, (128, ()))) ()) fun a16 => kbr v2.2.2.1
 (kbr (cond true a16.1.1 false)
 (j4 ((), ((v2.2.1.1, (v2.2.1.2.1, (v2.2.1.2.2.1, (v2.2.1.2.2.2.1, (v2.2.1.2.2.2.2.1, ([], ([], ()))))))), (cond true (decide ((Nat.cast (List.length x1.1.2.2.2.2.2.2.1) : Int) ≤ 32)) false, ()))))
 (j4 ((), ((v2.2.1.1, (v2.2.1.2.1, (v2.2.1.2.2.1, (v2.2.1.2.2.2.1, (v2.2.1.2.2.2.2.1, ([], ([], ()))))))), (false, ())))))
 (j4 ((), ((v2.2.1.1, (v2.2.1.2.1, (v2.2.1.2.2.1, (v2.2.1.2.2.2.1, (v2.2.1.2.2.2.2.1, ([], ([], ()))))))), (false, ())))))
 (kbr (x1.1.1 == 10)
 (kbnd (K111 ((Nat.cast (List.length x1.1.2.2.2.2.2.1) : Int), (1, (64, ()))) ()) fun a17 => kbr v2.2.2.1
 (j4 ((), ((v2.2.1.1, (v2.2.1.2.1, (v2.2.1.2.2.1, (v2.2.1.2.2.2.1, (v2.2.1.2.2.2.2.1, ([], (v2.2.1.2.2.2.2.2.2.1, ()))))))), (cond true a17.1.1 false, ()))))
 (j4 ((), ((v2.2.1.1, (v2.2.1.2.1, (v2.2.1.2.2.1, (v2.2.1.2.2.2.1, (v2.2.1.2.2.2.2.1, ([], (v2.2.1.2.2.2.2.2.2.1, ()))))))), (false, ())))))
 (some ((1, ()), ()))))
 (fun j18 => kbr (x1.1.1 == 8)
 (j18 (((x1.1.1 == 8), ()), ()))
 (j18 (((x1.1.1 == 9), ()), ()))))))))
 (fun j19 => kbr (x1.1.1 == 2)
 (j19 (((x1.1.1 == 2), ()), ()))
 (j19 (((x1.1.1 == 4), ()), ())))))
 (fun j20 => kbr (x1.1.1 == 1)
 (j20 (((x1.1.1 == 1), ()), ()))
 (j20 (((x1.1.1 == 3), ()), ())))))
 (fun j21 => kbnd (K111 (x1.1.1, (3, (10, ()))) ()) fun a22 => kbr a22.1.1
 (kbnd (K111 (x1.1.2.1, (1, (1099511627776, ()))) ()) fun a23 => kbr a23.1.1
 (kbnd (K111 (x1.1.2.2.1, (1, (1099511627776, ()))) ()) fun a24 => j21 ((), ((0, (0, (0, (x1.1.2.2.2.1, (x1.1.2.2.2.2.1, (x1.1.2.2.2.2.2.1, (x1.1.2.2.2.2.2.2.1, ()))))))), (cond true (cond true a24.1.1 false) false, ()))))
 (j21 ((), ((0, (0, (0, (x1.1.2.2.2.1, (x1.1.2.2.2.2.1, (x1.1.2.2.2.2.2.1, (x1.1.2.2.2.2.2.2.1, ()))))))), (false, ())))))
 (j21 ((), ((0, (x1.1.2.1, (x1.1.2.2.1, (x1.1.2.2.2.1, (x1.1.2.2.2.2.1, (x1.1.2.2.2.2.2.1, (x1.1.2.2.2.2.2.2.1, ()))))))), (true, ())))))
theorem kF47 (x0) (x1) : F47 x0 x1 = K47 x0 x1 := by
  unfold F47 K47
  (try simp only [bth_self]) <;> simp only [gdE_rfl, gdE_Tk, bnd_k, gd_k, br_k, jn_k, iter_k, bth_k, nlq_k, ob_k, kF111]
noncomputable def K48 (x0 : ((Int) × (Int) × (Int) × (List (BitVec 8)) × Unit) × (Int) × Unit) (x1 : Unit) : Option ((((Int) × (Int) × (Int) × (List (BitVec 8)) × Unit) × Unit) × Unit) :=
 kbr (x0.2.1 != 0)
 (some (((x0.2.1, (0, (0, ([], ())))), ()), ()))
 (some ((x0.1, ()), ()))
theorem kF48 (x0) (x1) : F48 x0 x1 = K48 x0 x1 := by
  unfold F48 K48
  (try simp only [bth_self]) <;> simp only [gdE_rfl, gdE_Tk, bnd_k, gd_k, br_k, jn_k, iter_k, bth_k, nlq_k, ob_k]
noncomputable def K49 (x0 : ((List ((Int) × (Int) × (Int) × ((Int) × (Int) × (Int) × (List (BitVec 8)) × Unit) × Unit)) × (Int) × Unit) × Unit) (x1 : Unit) : Option (((Int) × (Int) × Unit) × ((List ((Int) × (Int) × (Int) × ((Int) × (Int) × (Int) × (List (BitVec 8)) × Unit) × Unit)) × (Int) × Unit) × Unit) :=
 kbr (decide ((Nat.cast (List.length x0.1.1) : Int) ≥ 8))
 (some ((0, (134, ())), ((x0.1.1, (x0.1.2.1, ())), ())))
 (kbr (cond false true (decide (x0.1.2.1 ≥ 1099511627776)))
 (some ((0, (134, ())), ((x0.1.1, (x0.1.2.1, ())), ())))
 (some ((x0.1.2.1, (0, ())), ((mput x0.1.1 x0.1.2.1 (x0.1.2.1, (0, ((0, (0, (0, ([], ())))), ()))), (Go.SL.w64 (x0.1.2.1 + 1), ())), ()))))
theorem kF49 (x0) (x1) : F49 x0 x1 = K49 x0 x1 := by
  unfold F49 K49
  (try simp only [bth_self]) <;> simp only [gdE_rfl, gdE_Tk, bnd_k, gd_k, br_k, jn_k, iter_k, bth_k, nlq_k, ob_k]
noncomputable def K50 (x0 : ((List ((Int) × (Int) × (Int) × ((Int) × (Int) × (Int) × (List (BitVec 8)) × Unit) × Unit)) × (Int) × Unit) × (Int) × Unit) (x1 : Unit) : Option (((Int) × Unit) × ((List ((Int) × (Int) × (Int) × ((Int) × (Int) × (Int) × (List (BitVec 8)) × Unit) × Unit)) × (Int) × Unit) × Unit) :=
 kob (mget x0.1.1 x0.2.1) (kbr true
 (some ((150, ()), ((x0.1.1, (x0.1.2.1, ())), ())))
 (some ((0, ()), ((mdel x0.1.1 x0.2.1, (x0.1.2.1, ())), ())))) fun a2 => kbr false
 (some ((150, ()), ((x0.1.1, (x0.1.2.1, ())), ())))
 (some ((0, ()), ((mdel x0.1.1 x0.2.1, (x0.1.2.1, ())), ())))
theorem kF50 (x0) (x1) : F50 x0 x1 = K50 x0 x1 := by
  unfold F50 K50
  (try simp only [bth_self]) <;> simp only [gdE_rfl, gdE_Tk, bnd_k, gd_k, br_k, jn_k, iter_k, bth_k, nlq_k, ob_k]
noncomputable def K120 (x0 : Unit) (x1 : ((Int) × (Int) × (Int) × (List (BitVec 8)) × Unit) × Unit) : Option ((((Int) × (Int) × (Int) × (List (BitVec 8)) × Unit) × Unit) × Unit) :=
 kbnd (K171 () (x1.1.2.2.2.1, ())) fun a2 => some (((x1.1.1, (x1.1.2.1, (x1.1.2.2.1, (a2.1.1, ())))), ()), ())
theorem kF120 (x0) (x1) : F120 x0 x1 = K120 x0 x1 := by
  unfold F120 K120
  (try simp only [bth_self]) <;> simp only [gdE_rfl, gdE_Tk, bnd_k, gd_k, br_k, jn_k, iter_k, bth_k, nlq_k, ob_k, kF171]
noncomputable def K51 (x0 : ((List ((Int) × (Int) × (Int) × ((Int) × (Int) × (Int) × (List (BitVec 8)) × Unit) × Unit)) × (Int) × Unit) × (Int) × (Int) × Unit) (x1 : Unit) : Option ((((Int) × (Int) × (Int) × (List (BitVec 8)) × Unit) × (Bool) × (Int) × Unit) × ((List ((Int) × (Int) × (Int) × ((Int) × (Int) × (Int) × (List (BitVec 8)) × Unit) × Unit)) × (Int) × Unit) × Unit) :=
 kob (mget x0.1.1 x0.2.1) (kbr true
 (some (((0, (0, (0, ([], ())))), (false, (150, ()))), ((x0.1.1, (x0.1.2.1, ())), ())))
 (kbr (decide (x0.2.2.1 < 1))
 (some (((0, (0, (0, ([], ())))), (false, (151, ()))), ((x0.1.1, (x0.1.2.1, ())), ())))
 (kbr (x0.2.2.1 == 0)
 (kbnd (K120 () ((0, (0, (0, ([], ())))), ())) fun a2 => some ((a2.1.1, (true, (0, ()))), ((x0.1.1, (x0.1.2.1, ())), ())))
 (some (((0, (0, (0, ([], ())))), (false, (0, ()))), ((x0.1.1, (x0.1.2.1, ())), ())))))) fun a3 => kbr false
 (some (((0, (0, (0, ([], ())))), (false, (150, ()))), ((x0.1.1, (x0.1.2.1, ())), ())))
 (kbr (decide (x0.2.2.1 < imax 1 a3.2.1))
 (some (((0, (0, (0, ([], ())))), (false, (151, ()))), ((x0.1.1, (x0.1.2.1, ())), ())))
 (kbr (x0.2.2.1 == a3.2.1)
 (kbnd (K120 () (a3.2.2.1, ())) fun a4 => some ((a4.1.1, (true, (0, ()))), ((x0.1.1, (x0.1.2.1, ())), ())))
 (some (((0, (0, (0, ([], ())))), (false, (0, ()))), ((x0.1.1, (x0.1.2.1, ())), ())))))
theorem kF51 (x0) (x1) : F51 x0 x1 = K51 x0 x1 := by
  unfold F51 K51
  (try simp only [bth_self]) <;> simp only [gdE_rfl, gdE_Tk, bnd_k, gd_k, br_k, jn_k, iter_k, bth_k, nlq_k, ob_k, kF120]
noncomputable def K123 (x0 : ((List ((Bool) × (List ((List (BitVec 8)) × (Int) × (Bool) × Unit)) × Unit)) × Unit) × (List (BitVec 8)) × Unit) (x1 : Unit) : Option (((Int) × (Int) × Unit) × ((List ((Bool) × (List ((List (BitVec 8)) × (Int) × (Bool) × Unit)) × Unit)) × Unit) × Unit) :=
 kbr (decide ((Nat.cast (List.length x0.1.1) : Int) ≥ 8))
 (some ((0, (134, ())), ((x0.1.1, ()), ())))
 (kgd (few (List.length x0.1.1) (List.length (((false, (((x0.2.1, (0, (false, ()))) :: []), ())) :: []) : List ((Bool) × (List ((List (BitVec 8)) × (Int) × (Bool) × Unit)) × Unit)))) <| some (((Nat.cast (List.length ((x0.1.1 ++ ((false, (((x0.2.1, (0, (false, ()))) :: []), ())) :: [])) : List ((Bool) × (List ((List (BitVec 8)) × (Int) × (Bool) × Unit)) × Unit))) : Int), (0, ())), (((x0.1.1 ++ ((false, (((x0.2.1, (0, (false, ()))) :: []), ())) :: [])), ()), ())))
theorem kF123 (x0) (x1) : F123 x0 x1 = K123 x0 x1 := by
  unfold F123 K123
  (try simp only [bth_self]) <;> simp only [gdE_rfl, gdE_Tk, bnd_k, gd_k, br_k, jn_k, iter_k, bth_k, nlq_k, ob_k]
noncomputable def K125 (x0 : ((List ((Bool) × (List ((List (BitVec 8)) × (Int) × (Bool) × Unit)) × Unit)) × Unit) × (Int) × (List (BitVec 8)) × Unit) (x1 : Unit) : Option (((Int) × (Int) × Unit) × ((List ((Bool) × (List ((List (BitVec 8)) × (Int) × (Bool) × Unit)) × Unit)) × Unit) × Unit) :=
 kbr (decide (x0.2.1 < 1))
 (some ((0, (130, ())), (x0.1, ())))
 (kbr (cond false true (decide (x0.2.1 > (Nat.cast (List.length x0.1.1) : Int))))
 (some ((0, (130, ())), ((x0.1.1, ()), ())))
 (kgd (0 ≤ Go.SL.w64 (x0.2.1 - 1)) <| kgd (Int.toNat (Go.SL.w64 (x0.2.1 - 1)) < (List.length x0.1.1)) <| kbnd (x0.1.1[Int.toNat (Go.SL.w64 (x0.2.1 - 1))]?) fun a2 => kbr (decide ((Nat.cast (List.length a2.2.1) : Int) ≥ 4))
 (some ((0, (134, ())), ((List.set x0.1.1 (Int.toNat (Go.SL.w64 (x0.2.1 - 1))) (a2.1, (a2.2.1, ())), ()), ())))
 (kgd (Int.toNat (Go.SL.w64 (x0.2.1 - 1)) = Int.toNat (Go.SL.w64 (x0.2.1 - 1))) <| kgd (few (List.length a2.2.1) (List.length (((x0.2.2.1, (0, (false, ()))) :: []) : List ((List (BitVec 8)) × (Int) × (Bool) × Unit)))) <| kgd (Int.toNat (Go.SL.w64 (x0.2.1 - 1)) = Int.toNat (Go.SL.w64 (x0.2.1 - 1))) <| kgd (Int.toNat (Go.SL.w64 (x0.2.1 - 1)) = Int.toNat (Go.SL.w64 (x0.2.1 - 1))) <| some (((Nat.cast (List.length ((a2.2.1 ++ ((x0.2.2.1, (0, (false, ()))) :: [])) : List ((List (BitVec 8)) × (Int) × (Bool) × Unit))) : Int), (0, ())), ((List.set x0.1.1 (Int.toNat (Go.SL.w64 (x0.2.1 - 1))) (a2.1, ((a2.2.1 ++ ((x0.2.2.1, (0, (false, ()))) :: [])), ())), ()), ())))))
theorem kF125 (x0) (x1) : F125 x0 x1 = K125 x0 x1 := by
  unfold F125 K125
  (try simp only [bth_self]) <;> simp only [gdE_rfl, gdE_Tk, bnd_k, gd_k, br_k, jn_k, iter_k, bth_k, nlq_k, ob_k]
noncomputable def K126 (x0 : ((List ((Bool) × (List ((List (BitVec 8)) × (Int) × (Bool) × Unit)) × Unit)) × Unit) × (Int) × (Bool) × Unit) (x1 : Unit) : Option (((Int) × Unit) × ((List ((Bool) × (List ((List (BitVec 8)) × (Int) × (Bool) × Unit)) × Unit)) × Unit) × Unit) :=
 kbr (decide (x0.2.1 < 1))
 (some ((130, ()), (x0.1, ())))
 (kbr (cond false true (decide (x0.2.1 > (Nat.cast (List.length x0.1.1) : Int))))
 (some ((130, ()), ((x0.1.1, ()), ())))
 (kgd (0 ≤ Go.SL.w64 (x0.2.1 - 1)) <| kgd (Int.toNat (Go.SL.w64 (x0.2.1 - 1)) < (List.length x0.1.1)) <| kbnd (x0.1.1[Int.toNat (Go.SL.w64 (x0.2.1 - 1))]?) fun a2 => some ((0, ()), ((List.set x0.1.1 (Int.toNat (Go.SL.w64 (x0.2.1 - 1))) ((!x0.2.2.1), (a2.2.1, ())), ()), ()))))
theorem kF126 (x0) (x1) : F126 x0 x1 = K126 x0 x1 := by
  unfold F126 K126
  (try simp only [bth_self]) <;> simp only [gdE_rfl, gdE_Tk, bnd_k, gd_k, br_k, jn_k, iter_k, bth_k, nlq_k, ob_k]
noncomputable def K127 (x0 : ((List ((Bool) × (List ((List (BitVec 8)) × (Int) × (Bool) × Unit)) × Unit)) × Unit) × (Int) × (Int) × Unit) (x1 : Unit) : Option (((Int) × Unit) × ((List ((Bool) × (List ((List (BitVec 8)) × (Int) × (Bool) × Unit)) × Unit)) × Unit) × Unit) :=
 kbr (decide (x0.2.1 < 1))
 (some ((130, ()), (x0.1, ())))
 (kbr (cond false true (decide (x0.2.1 > (Nat.cast (List.length x0.1.1) : Int))))
 (some ((130, ()), ((x0.1.1, ()), ())))
 (kgd (0 ≤ Go.SL.w64 (x0.2.1 - 1)) <| kgd (Int.toNat (Go.SL.w64 (x0.2.1 - 1)) < (List.length x0.1.1)) <| kbr (cond false true (decide (x0.2.2.1 < 1)))
 (some ((130, ()), ((x0.1.1, ()), ())))
 (kbnd (x0.1.1[Int.toNat (Go.SL.w64 (x0.2.1 - 1))]?) fun a2 => kbr (cond false true (decide (x0.2.2.1 > (Nat.cast (List.length a2.2.1) : Int))))
 (some ((130, ()), ((List.set x0.1.1 (Int.toNat (Go.SL.w64 (x0.2.1 - 1))) (a2.1, (a2.2.1, ())), ()), ())))
 (kgd (Int.toNat (Go.SL.w64 (x0.2.1 - 1)) = Int.toNat (Go.SL.w64 (x0.2.1 - 1))) <| kgd (0 ≤ Go.SL.w64 (x0.2.2.1 - 1)) <| kgd (Int.toNat (Go.SL.w64 (x0.2.2.1 - 1)) < (List.length a2.2.1)) <| kbnd (a2.2.1[Int.toNat (Go.SL.w64 (x0.2.2.1 - 1))]?) fun a3 => kbr a3.2.2.1
 (some ((132, ()), ((List.set x0.1.1 (Int.toNat (Go.SL.w64 (x0.2.1 - 1))) (a2.1, (a2.2.1, ())), ()), ())))
 (kbnd (a2.2.1[Int.toNat (Go.SL.w64 (x0.2.2.1 - 1))]?) fun a4 => kbnd ((List.set a2.2.1 (Int.toNat (Go.SL.w64 (x0.2.2.1 - 1))) (a4.1, (a4.2.1, (true, a4.2.2.2))))[Int.toNat (Go.SL.w64 (x0.2.2.1 - 1))]?) fun a5 => some ((0, ()), ((List.set x0.1.1 (Int.toNat (Go.SL.w64 (x0.2.1 - 1))) (a2.1, (List.set (List.set a2.2.1 (Int.toNat (Go.SL.w64 (x0.2.2.1 - 1))) (a4.1, (a4.2.1, (true, a4.2.2.2)))) (Int.toNat (Go.SL.w64 (x0.2.2.1 - 1))) (List.replicate 32 0#8, a5.2), ())), ()), ())))))))
theorem kF127 (x0) (x1) : F127 x0 x1 = K127 x0 x1 := by
  unfold F127 K127
  (try simp only [bth_self]) <;> simp only [gdE_rfl, gdE_Tk, bnd_k, gd_k, br_k, jn_k, iter_k, bth_k, nlq_k, ob_k]
noncomputable def K175 (x0 : ((List ((Bool) × (List ((List (BitVec 8)) × (Int) × (Bool) × Unit)) × Unit)) × Unit) × (Int) × Unit) (x1 : Unit) : Option (((Int) × (Int) × (List (BitVec 8)) × (Int) × Unit) × ((List ((Bool) × (List ((List (BitVec 8)) × (Int) × (Bool) × Unit)) × Unit)) × Unit) × Unit) :=
 kbr (decide (x0.2.1 < 1))
 (some ((0, (0, (List.replicate 32 0#8, (130, ())))), (x0.1, ())))
 (kbr (cond false true (decide (x0.2.1 > (Nat.cast (List.length x0.1.1) : Int))))
 (some ((0, (0, (List.replicate 32 0#8, (130, ())))), ((x0.1.1, ()), ())))
 (kgd (0 ≤ Go.SL.w64 (x0.2.1 - 1)) <| kgd (Int.toNat (Go.SL.w64 (x0.2.1 - 1)) < (List.length x0.1.1)) <| kbnd (x0.1.1[Int.toNat (Go.SL.w64 (x0.2.1 - 1))]?) fun a2 => kgd (Int.toNat (Go.SL.w64 (x0.2.1 - 1)) = Int.toNat (Go.SL.w64 (x0.2.1 - 1))) <| kgd (0 ≤ Go.SL.w64 ((Nat.cast (List.length a2.2.1) : Int) - 1)) <| kgd (Int.toNat (Go.SL.w64 ((Nat.cast (List.length a2.2.1) : Int) - 1)) < (List.length a2.2.1)) <| kgd (Int.toNat (Go.SL.w64 (x0.2.1 - 1)) = Int.toNat (Go.SL.w64 (x0.2.1 - 1))) <| kbr a2.1
 (some ((0, (0, (List.replicate 32 0#8, (131, ())))), ((List.set x0.1.1 (Int.toNat (Go.SL.w64 (x0.2.1 - 1))) (a2.1, (a2.2.1, ())), ()), ())))
 (kbnd (a2.2.1[Int.toNat (Go.SL.w64 ((Nat.cast (List.length a2.2.1) : Int) - 1))]?) fun a3 => kbr a3.2.2.1
 (some ((0, (0, (List.replicate 32 0#8, (132, ())))), ((List.set x0.1.1 (Int.toNat (Go.SL.w64 (x0.2.1 - 1))) (a2.1, (a2.2.1, ())), ()), ())))
 (kbnd (a2.2.1[Int.toNat (Go.SL.w64 ((Nat.cast (List.length a2.2.1) : Int) - 1))]?) fun a4 => kbr (decide (a4.2.1 ≥ 16))
 (some ((0, (0, (List.replicate 32 0#8, (133, ())))), ((List.set x0.1.1 (Int.toNat (Go.SL.w64 (x0.2.1 - 1))) (a2.1, (a2.2.1, ())), ()), ())))
 (kbnd (a2.2.1[Int.toNat (Go.SL.w64 ((Nat.cast (List.length a2.2.1) : Int) - 1))]?) fun a5 => kbnd (a2.2.1[Int.toNat (Go.SL.w64 ((Nat.cast (List.length a2.2.1) : Int) - 1))]?) fun a6 => kgd (Int.toNat (Go.SL.w64 (x0.2.1 - 1)) = Int.toNat (Go.SL.w64 (x0.2.1 - 1))) <| kbnd ((List.set a2.2.1 (Int.toNat (Go.SL.w64 ((Nat.cast (List.length a2.2.1) : Int) - 1))) (a6.1, (Go.SL.w64 (a5.2.1 + 1), a6.2.2)))[Int.toNat (Go.SL.w64 ((Nat.cast (List.length a2.2.1) : Int) - 1))]?) fun a7 => kbnd ((List.set a2.2.1 (Int.toNat (Go.SL.w64 ((Nat.cast (List.length a2.2.1) : Int) - 1))) (a6.1, (Go.SL.w64 (a5.2.1 + 1), a6.2.2)))[Int.toNat (Go.SL.w64 ((Nat.cast (List.length a2.2.1) : Int) - 1))]?) fun a8 => some (((Nat.cast (List.length (List.set a2.2.1 (Int.toNat (Go.SL.w64 ((Nat.cast (List.length a2.2.1) : Int) - 1))) (a6.1, (Go.SL.w64 (a5.2.1 + 1), a6.2.2)))) : Int), (Go.SL.w64 (a7.2.1 - 1), (a8.1, (0, ())))), ((List.set x0.1.1 (Int.toNat (Go.SL.w64 (x0.2.1 - 1))) (a2.1, (List.set a2.2.1 (Int.toNat (Go.SL.w64 ((Nat.cast (List.length a2.2.1) : Int) - 1))) (a6.1, (Go.SL.w64 (a5.2.1 + 1), a6.2.2)), ())), ()), ())))))))
theorem kF175 (x0) (x1) : F175 x0 x1 = K175 x0 x1 := by
  unfold F175 K175
  (try simp only [bth_self]) <;> simp only [gdE_rfl, gdE_Tk, bnd_k, gd_k, br_k, jn_k, iter_k, bth_k, nlq_k, ob_k]
noncomputable def K208 (x0 : (BitVec 64) × Unit) (x1 : Unit) : Option (((Int) × Unit) × Unit) :=
 kjn (fun (v2 : ((Int) × (BitVec 64) × Unit) × Unit) => kjn (fun (v3 : ((Int) × (BitVec 64) × Unit) × Unit) => kbr (decide (BitVec.toNat v3.1.2.1 ≥ 256))
 (kbnd (([0#8, 1#8, 2#8, 2#8, 3#8, 3#8, 3#8, 3#8, 4#8, 4#8, 4#8, 4#8, 4#8, 4#8, 4#8, 4#8, 5#8, 5#8, 5#8, 5#8, 5#8, 5#8, 5#8, 5#8, 5#8, 5#8, 5#8, 5#8, 5#8, 5#8, 5#8, 5#8, 6#8, 6#8, 6#8, 6#8, 6#8, 6#8, 6#8, 6#8, 6#8, 6#8, 6#8, 6#8, 6#8, 6#8, 6#8, 6#8, 6#8, 6#8, 6#8, 6#8, 6#8, 6#8, 6#8, 6#8, 6#8, 6#8, 6#8, 6#8, 6#8, 6#8, 6#8, 6#8, 7#8, 7#8, 7#8, 7#8, 7#8, 7#8, 7#8, 7#8, 7#8, 7#8, 7#8, 7#8, 7#8, 7#8, 7#8, 7#8, 7#8, 7#8, 7#8, 7#8, 7#8, 7#8, 7#8, 7#8, 7#8, 7#8, 7#8, 7#8, 7#8, 7#8, 7#8, 7#8, 7#8, 7#8, 7#8, 7#8, 7#8, 7#8, 7#8, 7#8, 7#8, 7#8, 7#8, 7#8, 7#8, 7#8, 7#8, 7#8, 7#8, 7#8, 7#8, 7#8, 7#8, 7#8, 7#8, 7#8, 7#8, 7#8, 7#8, 7#8, 7#8, 7#8, 7#8, 7#8, 8#8, 8#8, 8#8, 8#8, 8#8, 8#8, 8#8, 8#8, 8#8, 8#8, 8#8, 8#8, 8#8, 8#8, 8#8, 8#8, 8#8, 8#8, 8#8, 8#8, 8#8, 8#8, 8#8, 8#8, 8#8, 8#8, 8#8, 8#8, 8#8, 8#8, 8#8, 8#8, 8#8, 8#8, 8#8, 8#8, 8#8, 8#8, 8#8, 8#8, 8#8, 8#8, 8#8, 8#8, 8#8, 8#8, 8#8, 8#8, 8#8, 8#8, 8#8, 8#8, 8#8, 8#8, 8#8, 8#8, 8#8, 8#8, 8#8, 8#8, 8#8, 8#8, 8#8, 8#8, 8#8, 8#8, 8#8, 8#8, 8#8, 8#8, 8#8, 8#8, 8#8, 8#8, 8#8, 8#8, 8#8, 8#8, 8#8, 8#8, 8#8, 8#8, 8#8, 8#8, 8#8, 8#8, 8#8, 8#8, 8#8, 8#8, 8#8, 8#8, 8#8, 8#8, 8#8, 8#8, 8#8, 8#8, 8#8, 8#8, 8#8, 8#8, 8#8, 8#8, 8#8, 8#8, 8#8, 8#8, 8#8, 8#8, 8#8, 8#8, 8#8, 8#8, 8#8, 8#8, 8#8, 8#8, 8#8, 8#8, 8#8, 8#8, 8#8, 8#8, 8#8, 8#8, 8#8, 8#8])[BitVec.toNat (BitVec.setWidth 8 (v3.1.2.1 >>> 8))]?) fun a4 => some ((Go.SL.w64 (Go.SL.w64 (v3.1.1 + 8) + (Nat.cast (BitVec.toNat a4) : Int)), ()), ()))
 (kbnd (([0#8, 1#8, 2#8, 2#8, 3#8, 3#8, 3#8, 3#8, 4#8, 4#8, 4#8, 4#8, 4#8, 4#8, 4#8, 4#8, 5#8, 5#8, 5#8, 5#8, 5#8, 5#8, 5#8, 5#8, 5#8, 5#8, 5#8, 5#8, 5#8, 5#8, 5#8, 5#8, 6#8, 6#8, 6#8, 6#8, 6#8, 6#8, 6#8, 6#8, 6#8, 6#8, 6#8, 6#8, 6#8, 6#8, 6#8, 6#8, 6#8, 6#8, 6#8, 6#8, 6#8, 6#8, 6#8, 6#8, 6#8, 6#8, 6#8, 6#8, 6#8, 6#8, 6#8, 6#8, 7#8, 7#8, 7#8, 7#8, 7#8, 7#8, 7#8, 7#8, 7#8, 7#8, 7#8, 7#8, 7#8, 7#8, 7#8, 7#8, 7#8, 7#8, 7#8, 7#8, 7#8, 7#8, 7#8, 7#8, 7#8, 7#8, 7#8, 7#8, 7#8, 7#8, 7#8, 7#8, 7#8, 7#8, 7#8, 7#8, 7#8, 7#8, 7#8, 7#8, 7#8, 7#8, 7#8, 7#8, 7#8, 7#8, 7#8, 7#8, 7#8, 7#8, 7#8, 7#8, 7#8, 7#8, 7#8, 7#8, 7#8, 7#8, 7#8, 7#8, 7#8, 7#8, 7#8, 7#8, 8#8, 8#8, 8#8, 8#8, 8#8, 8#8, 8#8, 8#8, 8#8, 8#8, 8#8, 8#8, 8#8, 8#8, 8#8, 8#8, 8#8, 8#8, 8#8, 8#8, 8#8, 8#8, 8#8, 8#8, 8#8, 8#8, 8#8, 8#8, 8#8, 8#8, 8#8, 8#8, 8#8, 8#8, 8#8, 8#8, 8#8, 8#8, 8#8, 8#8, 8#8, 8#8, 8#8, 8#8, 8#8, 8#8, 8#8, 8#8, 8#8, 8#8, 8#8, 8#8, 8#8, 8#8, 8#8, 8#8, 8#8, 8#8, 8#8, 8#8, 8#8, 8#8, 8#8, 8#8, 8#8, 8#8, 8#8, 8#8, 8#8, 8#8, 8#8, 8#8, 8#8, 8#8, 8#8, 8#8, 8#8, 8#8, 8#8, 8#8, 8#8, 8#8, 8#8, 8#8, 8#8, 8#8, 8#8, 8#8, 8#8, 8#8, 8#8, 8#8, 8#8, 8#8, 8#8, 8#8, 8#8, 8#8, 8#8, 8#8, 8#8, 8#8, 8#8, 8#8, 8#8, 8#8, 8#8, 8#8, 8#8, 8#8, 8#8, 8#8, 8#8, 8#8, 8#8, 8#8, 8#8, 8#8, 8#8, 8#8, 8#8, 8#8, 8#8, 8#8, 8#8, 8#8, 8#8, 8#8])[BitVec.toNat (BitVec.setWidth 8 v3.1.2.1)]?) fun a5 => some ((Go.SL.w64 (v3.1.1 + (Nat.cast (BitVec.toNat a5) : Int)), ()), ())))
 (fun j6 => kbr (decide (BitVec.toNat v2.1.2.1 ≥ 65536))
 (j6 ((Go.SL.w64 (v2.1.1 + 16), ((v2.1.2.1 >>> 16), ())), ()))
 (j6 ((v2.1.1, (v2.1.2.1, ())), ()))))
 (fun j7 => kbr (decide (BitVec.toNat x0.1 ≥ 4294967296))
 (j7 ((32, ((x0.1 >>> 32), ())), ()))
 (j7 ((0, (x0.1, ())), ())))
theorem kF208 (x0) (x1) : F208 x0 x1 = K208 x0 x1 := by
  unfold F208 K208
  (try simp only [bth_self]) <;> simp only [gdE_rfl, gdE_Tk, bnd_k, gd_k, br_k, jn_k, iter_k, bth_k, nlq_k, ob_k]
noncomputable def K190 (x0 : (BitVec 64) × Unit) (x1 : Unit) : Option (((Int) × Unit) × Unit) :=
 kbnd (K208 (x0.1, ()) ()) fun a2 => some ((a2.1.1, ()), ())
theorem kF190 (x0) (x1) : F190 x0 x1 = K190 x0 x1 := by
  unfold F190 K190
  (try simp only [bth_self]) <;> simp only [gdE_rfl, gdE_Tk, bnd_k, gd_k, br_k, jn_k, iter_k, bth_k, nlq_k, ob_k, kF208]
noncomputable def K149 (x0 : (Int) × Unit) (x1 : (List (BitVec 8)) × Unit) : Option (((List (BitVec 8)) × (Int) × Unit) × Unit) :=
 kbr (decide (x0.1 < 0))
 (some (([], (1, ())), ()))
 (kbnd (K190 (BitVec.ofInt 64 x0.1, ()) ()) fun a2 => kgd ((8 : Int) ≠ 0) <| kbnd (K171 () (x1.1, ())) fun a3 => kgd (few (List.length a3.1.1) (List.length ((BitVec.ofInt 8 (Go.SL.w64 (Int.tdiv (Go.SL.w64 (a2.1.1 + 7)) 8)) :: []) : List (BitVec 8)))) <| kiter (fun (v4 : ((Int) × (List (BitVec 8)) × Unit) × Unit) => fun r5 => kbr (decide (v4.1.1 ≥ 0))
 (kgd (0 ≤ Go.SL.w64 (8 * v4.1.1)) <| kgd (few (List.length v4.1.2.1) (List.length ((BitVec.ofInt 8 (Go.SL.ishr64 x0.1 (Int.toNat (Go.SL.w64 (8 * v4.1.1)))) :: []) : List (BitVec 8)))) <| r5 ((Go.SL.w64 (v4.1.1 - 1), ((v4.1.2.1 ++ (BitVec.ofInt 8 (Go.SL.ishr64 x0.1 (Int.toNat (Go.SL.w64 (8 * v4.1.1)))) :: [])), ())), ()))
 (some ((v4.1.2.1, (0, ())), ()))) ((Go.SL.w64 (Go.SL.w64 (Int.tdiv (Go.SL.w64 (a2.1.1 + 7)) 8) - 1), ((a3.1.1 ++ (BitVec.ofInt 8 (Go.SL.w64 (Int.tdiv (Go.SL.w64 (a2.1.1 + 7)) 8)) :: [])), ())), ()))
theorem kF149 (x0) (x1) : F149 x0 x1 = K149 x0 x1 := by
  unfold F149 K149
  (try simp only [bth_self]) <;> simp only [gdE_rfl, gdE_Tk, bnd_k, gd_k, br_k, jn_k, iter_k, bth_k, nlq_k, ob_k, kF171, kF190]
noncomputable def K176 (x0 : (Int) × (Int) × (List (BitVec 8)) × Unit) (x1 : (List (BitVec 8)) × Unit) : Option (((List (BitVec 8)) × Unit) × Unit) :=
 kbnd (K149 (x0.1, ()) ([], ())) fun a2 => kbnd (K149 (x0.2.1, ()) (a2.1.1, ())) fun a3 => kgd ((0 : Nat) ≤ 12) <| kgd ((12 : Nat) ≤ 12) <| kgd (12 ≤ (List.length x0.2.2.1)) <| kbnd (K201 () ((a3.1.1 :: (List.take 12 (List.drop 0 x0.2.2.1) :: (x1.1 :: []))), ())) fun a4 => some ((a4.1.1, ()), ())
theorem kF176 (x0) (x1) : F176 x0 x1 = K176 x0 x1 := by
  unfold F176 K176
  (try simp only [bth_self]) <;> simp only [gdE_rfl, gdE_Tk, bnd_k, gd_k, br_k, jn_k, iter_k, bth_k, nlq_k, ob_k, kF149, kF201]
noncomputable def K255 (x0 : (BitVec 8) × Unit) (x1 : Unit) : Option (((BitVec 8) × Unit) × Unit) :=
 kbnd (([99#8, 124#8, 119#8, 123#8, 242#8, 107#8, 111#8, 197#8, 48#8, 1#8, 103#8, 43#8, 254#8, 215#8, 171#8, 118#8, 202#8, 130#8, 201#8, 125#8, 250#8, 89#8, 71#8, 240#8, 173#8, 212#8, 162#8, 175#8, 156#8, 164#8, 114#8, 192#8, 183#8, 253#8, 147#8, 38#8, 54#8, 63#8, 247#8, 204#8, 52#8, 165#8, 229#8, 241#8, 113#8, 216#8, 49#8, 21#8, 4#8, 199#8, 35#8, 195#8, 24#8, 150#8, 5#8, 154#8, 7#8, 18#8, 128#8, 226#8, 235#8, 39#8, 178#8, 117#8, 9#8, 131#8, 44#8, 26#8, 27#8, 110#8, 90#8, 160#8, 82#8, 59#8, 214#8, 179#8, 41#8, 227#8, 47#8, 132#8, 83#8, 209#8, 0#8, 237#8, 32#8, 252#8, 177#8, 91#8, 106#8, 203#8, 190#8, 57#8, 74#8, 76#8, 88#8, 207#8, 208#8, 239#8, 170#8, 251#8, 67#8, 77#8, 51#8, 133#8, 69#8, 249#8, 2#8, 127#8, 80#8, 60#8, 159#8, 168#8, 81#8, 163#8, 64#8, 143#8, 146#8, 157#8, 56#8, 245#8, 188#8, 182#8, 218#8, 33#8, 16#8, 255#8, 243#8, 210#8, 205#8, 12#8, 19#8, 236#8, 95#8, 151#8, 68#8, 23#8, 196#8, 167#8, 126#8, 61#8, 100#8, 93#8, 25#8, 115#8, 96#8, 129#8, 79#8, 220#8, 34#8, 42#8, 144#8, 136#8, 70#8, 238#8, 184#8, 20#8, 222#8, 94#8, 11#8, 219#8, 224#8, 50#8, 58#8, 10#8, 73#8, 6#8, 36#8, 92#8, 194#8, 211#8, 172#8, 98#8, 145#8, 149#8, 228#8, 121#8, 231#8, 200#8, 55#8, 109#8, 141#8, 213#8, 78#8, 169#8, 108#8, 86#8, 244#8, 234#8, 101#8, 122#8, 174#8, 8#8, 186#8, 120#8, 37#8, 46#8, 28#8, 166#8, 180#8, 198#8, 232#8, 221#8, 116#8, 31#8, 75#8, 189#8, 139#8, 138#8, 112#8, 62#8, 181#8, 102#8, 72#8, 3#8, 246#8, 14#8, 97#8, 53#8, 87#8, 185#8, 134#8, 193#8, 29#8, 158#8, 225#8, 248#8, 152#8, 17#8, 105#8, 217#8, 142#8, 148#8, 155#8, 30#8, 135#8, 233#8, 206#8, 85#8, 40#8, 223#8, 140#8, 161#8, 137#8, 13#8, 191#8, 230#8, 66#8, 104#8, 65#8, 153#8, 45#8, 15#8, 176#8, 84#8, 187#8, 22#8])[BitVec.toNat x0.1]?) fun a2 => some ((a2, ()), ())
theorem kF255 (x0) (x1) : F255 x0 x1 = K255 x0 x1 := by
  unfold F255 K255
  (try simp only [bth_self]) <;> simp only [gdE_rfl, gdE_Tk, bnd_k, gd_k, br_k, jn_k, iter_k, bth_k, nlq_k, ob_k]
noncomputable def K236 (x0 : (List (BitVec 8)) × Unit) (x1 : Unit) : Option (((List (BitVec 8)) × Unit) × Unit) :=
 kgd ((0 : Int) ≤ 0) <| kgd ((0 : Nat) < 4) <| kbnd x0.1[0]? fun a2 => kgd ((0 : Int) ≤ 1) <| kgd ((1 : Nat) < 4) <| kbnd x0.1[1]? fun a3 => kgd ((0 : Int) ≤ 2) <| kgd ((2 : Nat) < 4) <| kbnd x0.1[2]? fun a4 => kgd ((0 : Int) ≤ 3) <| kgd ((3 : Nat) < 4) <| kbnd x0.1[3]? fun a5 => kbnd (K255 (a2, ()) ()) fun a6 => kbnd (K255 (a3, ()) ()) fun a7 => kbnd (K255 (a4, ()) ()) fun a8 => kbnd (K255 (a5, ()) ()) fun a9 => some ((List.set (List.set (List.set (List.set (List.replicate 4 0#8) 0 a6.1.1) 1 a7.1.1) 2 a8.1.1) 3 a9.1.1, ()), ())
theorem kF236 (x0) (x1) : F236 x0 x1 = K236 x0 x1 := by
  unfold F236 K236
  (try simp only [bth_self]) <;> simp only [gdE_rfl, gdE_Tk, bnd_k, gd_k, br_k, jn_k, iter_k, bth_k, nlq_k, ob_k, kF255]
noncomputable def K237 (x0 : (BitVec 8) × Unit) (x1 : Unit) : Option (((BitVec 8) × Unit) × Unit) :=
 some ((((x0.1 <<< 1) ^^^ (27#8 &&& (-(x0.1 >>> 7)))), ()), ())
theorem kF237 (x0) (x1) : F237 x0 x1 = K237 x0 x1 := by
  unfold F237 K237
  (try simp only [bth_self]) <;> simp only [gdE_rfl, gdE_Tk, bnd_k, gd_k, br_k, jn_k, iter_k, bth_k, nlq_k, ob_k]
noncomputable def K217 (x0 : Unit) (x1 : (List (BitVec 8)) × Unit) : Option (((List (List (BitVec 8))) × Unit) × Unit) :=
 kiter (fun (v2 : ((Int) × (BitVec 8) × Unit) × (List (List (BitVec 8))) × Unit) => fun r3 => kbr (decide (v2.1.1 < 60))
 (kbr (decide (v2.1.1 < 8))
 (kgd (0 ≤ Go.SL.w64 (4 * v2.1.1)) <| kgd (0 ≤ Go.SL.w64 (Go.SL.w64 (4 * v2.1.1) + 4)) <| kgd (Int.toNat (Go.SL.w64 (4 * v2.1.1)) ≤ Int.toNat (Go.SL.w64 (Go.SL.w64 (4 * v2.1.1) + 4))) <| kgd (Int.toNat (Go.SL.w64 (Go.SL.w64 (4 * v2.1.1) + 4)) ≤ 32) <| kgd (4 ≤ (List.length (List.drop (Int.toNat (Go.SL.w64 (4 * v2.1.1))) (List.take (Int.toNat (Go.SL.w64 (Go.SL.w64 (4 * v2.1.1) + 4))) x1.1)))) <| kgd (0 ≤ v2.1.1) <| kgd (Int.toNat v2.1.1 < 60) <| kgd (Int.toNat v2.1.1 < (List.length v2.2.1)) <| r3 ((Go.SL.w64 (v2.1.1 + 1), (v2.1.2.1, ())), (List.set v2.2.1 (Int.toNat v2.1.1) (List.take 4 (List.drop (Int.toNat (Go.SL.w64 (4 * v2.1.1))) (List.take (Int.toNat (Go.SL.w64 (Go.SL.w64 (4 * v2.1.1) + 4))) x1.1))), ())))
 (kgd (0 ≤ Go.SL.w64 (v2.1.1 - 1)) <| kgd (Int.toNat (Go.SL.w64 (v2.1.1 - 1)) < 60) <| kbnd (v2.2.1[Int.toNat (Go.SL.w64 (v2.1.1 - 1))]?) fun a4 => kjn (fun (v5 : ((BitVec 8) × Unit) × (List (BitVec 8)) × Unit) => kiter (fun (v6 : ((Int) × Unit) × (List (BitVec 8)) × Unit) => fun r7 => kbr (decide (v6.1.1 < 4))
 (kgd (0 ≤ v6.1.1) <| kgd (Int.toNat v6.1.1 < 4) <| kbnd (v6.2.1[Int.toNat v6.1.1]?) fun a8 => kgd (0 ≤ Go.SL.w64 (v2.1.1 - 8)) <| kgd (Int.toNat (Go.SL.w64 (v2.1.1 - 8)) < 60) <| kgd (0 ≤ v6.1.1) <| kgd (Int.toNat v6.1.1 < 4) <| kbnd (v2.2.1[Int.toNat (Go.SL.w64 (v2.1.1 - 8))]?) fun a9 => kbnd (a9[Int.toNat v6.1.1]?) fun a10 => kgd (0 ≤ v6.1.1) <| kgd (Int.toNat v6.1.1 < 4) <| kgd (Int.toNat v6.1.1 < (List.length v6.2.1)) <| r7 ((Go.SL.w64 (v6.1.1 + 1), ()), (List.set v6.2.1 (Int.toNat v6.1.1) (a8 ^^^ a10), ())))
 (kgd (0 ≤ v2.1.1) <| kgd (Int.toNat v2.1.1 < 60) <| kgd (Int.toNat v2.1.1 < (List.length v2.2.1)) <| r3 ((Go.SL.w64 (v2.1.1 + 1), (v5.1.1, ())), (List.set v2.2.1 (Int.toNat v2.1.1) v6.2.1, ())))) ((0, ()), (v5.2.1, ())))
 (fun j11 => kgd ((8 : Int) ≠ 0) <| kbr (Int.tmod v2.1.1 8 == 0)
 (kgd ((0 : Int) ≤ 1) <| kgd ((1 : Nat) < 4) <| kbnd a4[1]? fun a12 => kgd ((0 : Int) ≤ 2) <| kgd ((2 : Nat) < 4) <| kbnd a4[2]? fun a13 => kgd ((0 : Int) ≤ 3) <| kgd ((3 : Nat) < 4) <| kbnd a4[3]? fun a14 => kgd ((0 : Int) ≤ 0) <| kgd ((0 : Nat) < 4) <| kbnd a4[0]? fun a15 => kbnd (K236 (List.set (List.set (List.set (List.set (List.replicate 4 0#8) 0 a12) 1 a13) 2 a14) 3 a15, ()) ()) fun a16 => kgd ((0 : Int) ≤ 0) <| kgd ((0 : Nat) < 4) <| kbnd a16.1.1[0]? fun a17 => kgd ((0 : Int) ≤ 0) <| kgd ((0 : Nat) < 4) <| kgd (0 < (List.length a16.1.1)) <| kbnd (K237 (v2.1.2.1, ()) ()) fun a18 => j11 ((a18.1.1, ()), (List.set a16.1.1 0 (a17 ^^^ v2.1.2.1), ())))
 (kbr (Int.tmod v2.1.1 8 == 4)
 (kbnd (K236 (a4, ()) ()) fun a19 => j11 ((v2.1.2.1, ()), (a19.1.1, ())))
 (j11 ((v2.1.2.1, ()), (a4, ())))))))
 (kiter (fun (v20 : ((Int) × Unit) × (List (List (BitVec 8))) × Unit) => fun r21 => kbr (decide (v20.1.1 < 60))
 (kgd (0 ≤ v20.1.1) <| kbnd (v2.2.1[Int.toNat v20.1.1]?) fun a22 => kgd ((4 : Int) ≠ 0) <| kgd (0 ≤ Go.SL.w64 (Int.tdiv v20.1.1 4)) <| kgd (Int.toNat (Go.SL.w64 (Int.tdiv v20.1.1 4)) < 15) <| kgd ((4 : Int) ≠ 0) <| kgd (0 ≤ Go.SL.w64 (4 * Int.tmod v20.1.1 4)) <| kgd (Int.toNat (Go.SL.w64 (4 * Int.tmod v20.1.1 4)) ≤ 16) <| kgd ((16 : Nat) ≤ 16) <| kgd ((0 : Nat) ≤ 4) <| kgd ((4 : Nat) ≤ 4) <| kgd (4 ≤ (List.length a22)) <| kgd (0 < (16 - Int.toNat (Go.SL.w64 (4 * Int.tmod v20.1.1 4)))) <| kbnd (v20.2.1[Int.toNat (Go.SL.w64 (Int.tdiv v20.1.1 4))]?) fun a23 => kgd ((Int.toNat (Go.SL.w64 (4 * Int.tmod v20.1.1 4)) + (16 - Int.toNat (Go.SL.w64 (4 * Int.tmod v20.1.1 4)))) ≤ (List.length a23)) <| kgd (Int.toNat (Go.SL.w64 (Int.tdiv v20.1.1 4)) < (List.length v20.2.1)) <| r21 ((Go.SL.w64 (v20.1.1 + 1), ()), (List.set v20.2.1 (Int.toNat (Go.SL.w64 (Int.tdiv v20.1.1 4))) (ovl a23 (Int.toNat (Go.SL.w64 (4 * Int.tmod v20.1.1 4))) (List.take (16 - Int.toNat (Go.SL.w64 (4 * Int.tmod v20.1.1 4))) (List.take 4 (List.drop 0 a22)))), ())))
 (some ((v20.2.1, ()), ()))) ((0, ()), (List.replicate 15 (0#8 :: List.replicate 15 0#8), ())))) ((0, (1#8, ())), (List.replicate 60 (0#8 :: List.replicate 3 0#8), ()))
theorem kF217 (x0) (x1) : F217 x0 x1 = K217 x0 x1 := by
  unfold F217 K217
  (try simp only [bth_self]) <;> simp only [gdE_rfl, gdE_Tk, bnd_k, gd_k, br_k, jn_k, iter_k, bth_k, nlq_k, ob_k, kF236, kF237]
noncomputable def K218 (x0 : (List (BitVec 8)) × (BitVec 32) × Unit) (x1 : Unit) : Option (((List (BitVec 8)) × Unit) × Unit) :=
 kgd ((0 : Nat) ≤ 16) <| kgd ((16 : Nat) ≤ 16) <| kgd ((0 : Nat) ≤ 12) <| kgd ((12 : Nat) ≤ 12) <| kgd (12 ≤ (List.length x0.1)) <| kgd ((0 : Nat) < 16) <| kgd ((16 : Nat) ≤ 16) <| kgd ((0 : Int) ≤ 12) <| kgd ((12 : Nat) < 16) <| kgd (12 < (List.length (ovl (List.replicate 16 0#8) 0 (List.take 16 (List.take 12 (List.drop 0 x0.1)))))) <| kgd ((0 : Int) ≤ 13) <| kgd ((13 : Nat) < 16) <| kgd (13 < (List.length (List.set (ovl (List.replicate 16 0#8) 0 (List.take 16 (List.take 12 (List.drop 0 x0.1)))) 12 (BitVec.setWidth 8 (x0.2.1 >>> 24))))) <| kgd ((0 : Int) ≤ 14) <| kgd ((14 : Nat) < 16) <| kgd (14 < (List.length (List.set (List.set (ovl (List.replicate 16 0#8) 0 (List.take 16 (List.take 12 (List.drop 0 x0.1)))) 12 (BitVec.setWidth 8 (x0.2.1 >>> 24))) 13 (BitVec.setWidth 8 (x0.2.1 >>> 16))))) <| kgd ((0 : Int) ≤ 15) <| kgd ((15 : Nat) < 16) <| kgd (15 < (List.length (List.set (List.set (List.set (ovl (List.replicate 16 0#8) 0 (List.take 16 (List.take 12 (List.drop 0 x0.1)))) 12 (BitVec.setWidth 8 (x0.2.1 >>> 24))) 13 (BitVec.setWidth 8 (x0.2.1 >>> 16))) 14 (BitVec.setWidth 8 (x0.2.1 >>> 8))))) <| some ((List.set (List.set (List.set (List.set (ovl (List.replicate 16 0#8) 0 (List.take 16 (List.take 12 (List.drop 0 x0.1)))) 12 (BitVec.setWidth 8 (x0.2.1 >>> 24))) 13 (BitVec.setWidth 8 (x0.2.1 >>> 16))) 14 (BitVec.setWidth 8 (x0.2.1 >>> 8))) 15 (BitVec.setWidth 8 x0.2.1), ()), ())
theorem kF218 (x0) (x1) : F218 x0 x1 = K218 x0 x1 := by
  unfold F218 K218
  (try simp only [bth_self]) <;> simp only [gdE_rfl, gdE_Tk, bnd_k, gd_k, br_k, jn_k, iter_k, bth_k, nlq_k, ob_k]
noncomputable def K219 (x0 : (List (BitVec 8)) × Unit) (x1 : Unit) : Option (((List (BitVec 8)) × Unit) × Unit) :=
 kgd ((0 : Int) ≤ 12) <| kgd ((12 : Nat) < 16) <| kbnd x0.1[12]? fun a2 => kgd ((0 : Int) ≤ 13) <| kgd ((13 : Nat) < 16) <| kbnd x0.1[13]? fun a3 => kgd ((0 : Int) ≤ 14) <| kgd ((14 : Nat) < 16) <| kbnd x0.1[14]? fun a4 => kgd ((0 : Int) ≤ 15) <| kgd ((15 : Nat) < 16) <| kbnd x0.1[15]? fun a5 => kgd ((0 : Int) ≤ 12) <| kgd ((12 : Nat) < 16) <| kgd (12 < (List.length x0.1)) <| kgd ((0 : Int) ≤ 13) <| kgd ((13 : Nat) < 16) <| kgd (13 < (List.length (List.set x0.1 12 (BitVec.setWidth 8 ((((((BitVec.setWidth 32 a2 <<< 24) ||| (BitVec.setWidth 32 a3 <<< 16)) ||| (BitVec.setWidth 32 a4 <<< 8)) ||| BitVec.setWidth 32 a5) + 1#32) >>> 24))))) <| kgd ((0 : Int) ≤ 14) <| kgd ((14 : Nat) < 16) <| kgd (14 < (List.length (List.set (List.set x0.1 12 (BitVec.setWidth 8 ((((((BitVec.setWidth 32 a2 <<< 24) ||| (BitVec.setWidth 32 a3 <<< 16)) ||| (BitVec.setWidth 32 a4 <<< 8)) ||| BitVec.setWidth 32 a5) + 1#32) >>> 24))) 13 (BitVec.setWidth 8 ((((((BitVec.setWidth 32 a2 <<< 24) ||| (BitVec.setWidth 32 a3 <<< 16)) ||| (BitVec.setWidth 32 a4 <<< 8)) ||| BitVec.setWidth 32 a5) + 1#32) >>> 16))))) <| kgd ((0 : Int) ≤ 15) <| kgd ((15 : Nat) < 16) <| kgd (15 < (List.length (List.set (List.set (List.set x0.1 12 (BitVec.setWidth 8 ((((((BitVec.setWidth 32 a2 <<< 24) ||| (BitVec.setWidth 32 a3 <<< 16)) ||| (BitVec.setWidth 32 a4 <<< 8)) ||| BitVec.setWidth 32 a5) + 1#32) >>> 24))) 13 (BitVec.setWidth 8 ((((((BitVec.setWidth 32 a2 <<< 24) ||| (BitVec.setWidth 32 a3 <<< 16)) ||| (BitVec.setWidth 32 a4 <<< 8)) ||| BitVec.setWidth 32 a5) + 1#32) >>> 16))) 14 (BitVec.setWidth 8 ((((((BitVec.setWidth 32 a2 <<< 24) ||| (BitVec.setWidth 32 a3 <<< 16)) ||| (BitVec.setWidth 32 a4 <<< 8)) ||| BitVec.setWidth 32 a5) + 1#32) >>> 8))))) <| some ((List.set (List.set (List.set (List.set x0.1 12 (BitVec.setWidth 8 ((((((BitVec.setWidth 32 a2 <<< 24) ||| (BitVec.setWidth 32 a3 <<< 16)) ||| (BitVec.setWidth 32 a4 <<< 8)) ||| BitVec.setWidth 32 a5) + 1#32) >>> 24))) 13 (BitVec.setWidth 8 ((((((BitVec.setWidth 32 a2 <<< 24) ||| (BitVec.setWidth 32 a3 <<< 16)) ||| (BitVec.setWidth 32 a4 <<< 8)) ||| BitVec.setWidth 32 a5) + 1#32) >>> 16))) 14 (BitVec.setWidth 8 ((((((BitVec.setWidth 32 a2 <<< 24) ||| (BitVec.setWidth 32 a3 <<< 16)) ||| (BitVec.setWidth 32 a4 <<< 8)) ||| BitVec.setWidth 32 a5) + 1#32) >>> 8))) 15 (BitVec.setWidth 8 (((((BitVec.setWidth 32 a2 <<< 24) ||| (BitVec.setWidth 32 a3 <<< 16)) ||| (BitVec.setWidth 32 a4 <<< 8)) ||| BitVec.setWidth 32 a5) + 1#32)), ()), ())
theorem kF219 (x0) (x1) : F219 x0 x1 = K219 x0 x1 := by
  unfold F219 K219
  (try simp only [bth_self]) <;> simp only [gdE_rfl, gdE_Tk, bnd_k, gd_k, br_k, jn_k, iter_k, bth_k, nlq_k, ob_k]
noncomputable def K222 (x0 : (List (BitVec 8)) × (List (BitVec 8)) × Unit) (x1 : Unit) : Option (((List (BitVec 8)) × Unit) × Unit) :=
 kiter (fun (v2 : ((Int) × Unit) × (List (BitVec 8)) × Unit) => fun r3 => kbr (decide (v2.1.1 < 16))
 (kgd (0 ≤ v2.1.1) <| kgd (Int.toNat v2.1.1 < 16) <| kbnd (v2.2.1[Int.toNat v2.1.1]?) fun a4 => kgd (0 ≤ v2.1.1) <| kgd (Int.toNat v2.1.1 < 16) <| kbnd (x0.2.1[Int.toNat v2.1.1]?) fun a5 => kgd (0 ≤ v2.1.1) <| kgd (Int.toNat v2.1.1 < 16) <| kgd (Int.toNat v2.1.1 < (List.length v2.2.1)) <| r3 ((Go.SL.w64 (v2.1.1 + 1), ()), (List.set v2.2.1 (Int.toNat v2.1.1) (a4 ^^^ a5), ())))
 (some ((v2.2.1, ()), ()))) ((0, ()), (x0.1, ()))
theorem kF222 (x0) (x1) : F222 x0 x1 = K222 x0 x1 := by
  unfold F222 K222
  (try simp only [bth_self]) <;> simp only [gdE_rfl, gdE_Tk, bnd_k, gd_k, br_k, jn_k, iter_k, bth_k, nlq_k, ob_k]
noncomputable def K256 (x0 : (List (BitVec 8)) × Unit) (x1 : Unit) : Option (((List (BitVec 8)) × Unit) × Unit) :=
 kgd ((0 : Int) ≤ 0) <| kgd ((0 : Nat) < 4) <| kbnd x0.1[0]? fun a2 => kgd ((0 : Int) ≤ 1) <| kgd ((1 : Nat) < 4) <| kbnd x0.1[1]? fun a3 => kgd ((0 : Int) ≤ 2) <| kgd ((2 : Nat) < 4) <| kbnd x0.1[2]? fun a4 => kgd ((0 : Int) ≤ 3) <| kgd ((3 : Nat) < 4) <| kbnd x0.1[3]? fun a5 => kiter (fun (v6 : ((Int) × Unit) × (List (BitVec 8)) × Unit) => fun r7 => kbr (decide (v6.1.1 < 4))
 (kgd (0 ≤ v6.1.1) <| kgd (Int.toNat v6.1.1 < 4) <| kbnd (x0.1[Int.toNat v6.1.1]?) fun a8 => kgd (0 ≤ v6.1.1) <| kgd (Int.toNat v6.1.1 < 4) <| kbnd (x0.1[Int.toNat v6.1.1]?) fun a9 => kgd ((4 : Int) ≠ 0) <| kgd (0 ≤ Int.tmod (Go.SL.w64 (v6.1.1 + 1)) 4) <| kgd (Int.toNat (Int.tmod (Go.SL.w64 (v6.1.1 + 1)) 4) < 4) <| kbnd (x0.1[Int.toNat (Int.tmod (Go.SL.w64 (v6.1.1 + 1)) 4)]?) fun a10 => kbnd (K237 ((a9 ^^^ a10), ()) ()) fun a11 => kgd (0 ≤ v6.1.1) <| kgd (Int.toNat v6.1.1 < 4) <| kgd (Int.toNat v6.1.1 < (List.length v6.2.1)) <| r7 ((Go.SL.w64 (v6.1.1 + 1), ()), (List.set v6.2.1 (Int.toNat v6.1.1) ((a8 ^^^ (((a2 ^^^ a3) ^^^ a4) ^^^ a5)) ^^^ a11.1.1), ())))
 (some ((v6.2.1, ()), ()))) ((0, ()), (List.replicate 4 0#8, ()))
theorem kF256 (x0) (x1) : F256 x0 x1 = K256 x0 x1 := by
  unfold F256 K256
  (try simp only [bth_self]) <;> simp only [gdE_rfl, gdE_Tk, bnd_k, gd_k, br_k, jn_k, iter_k, bth_k, nlq_k, ob_k, kF237]
noncomputable def K238 (x0 : (List (BitVec 8)) × (List (BitVec 8)) × (Bool) × Unit) (x1 : Unit) : Option (((List (BitVec 8)) × Unit) × Unit) :=
 kiter (fun (v2 : ((Int) × Unit) × (List (BitVec 8)) × Unit) => fun r3 => kbr (decide (v2.1.1 < 4))
 (kiter (fun (v4 : ((Int) × Unit) × (List (BitVec 8)) × Unit) => fun r5 => kbr (decide (v4.1.1 < 4))
 (kgd ((16 : Int) ≠ 0) <| kgd (0 ≤ Int.tmod (Go.SL.w64 (Go.SL.w64 (4 * Go.SL.w64 (v2.1.1 + v4.1.1)) + v4.1.1)) 16) <| kgd (Int.toNat (Int.tmod (Go.SL.w64 (Go.SL.w64 (4 * Go.SL.w64 (v2.1.1 + v4.1.1)) + v4.1.1)) 16) < 16) <| kbnd (x0.1[Int.toNat (Int.tmod (Go.SL.w64 (Go.SL.w64 (4 * Go.SL.w64 (v2.1.1 + v4.1.1)) + v4.1.1)) 16)]?) fun a6 => kbnd (K255 (a6, ()) ()) fun a7 => kgd (0 ≤ v4.1.1) <| kgd (Int.toNat v4.1.1 < 4) <| kgd (Int.toNat v4.1.1 < (List.length v4.2.1)) <| r5 ((Go.SL.w64 (v4.1.1 + 1), ()), (List.set v4.2.1 (Int.toNat v4.1.1) a7.1.1, ())))
 (kjn (fun (v8 : (Unit) × (List (BitVec 8)) × Unit) => kiter (fun (v9 : ((Int) × Unit) × (List (BitVec 8)) × Unit) => fun r10 => kbr (decide (v9.1.1 < 4))
 (kgd (0 ≤ v9.1.1) <| kgd (Int.toNat v9.1.1 < 4) <| kbnd (v8.2.1[Int.toNat v9.1.1]?) fun a11 => kgd (0 ≤ Go.SL.w64 (Go.SL.w64 (4 * v2.1.1) + v9.1.1)) <| kgd (Int.toNat (Go.SL.w64 (Go.SL.w64 (4 * v2.1.1) + v9.1.1)) < 16) <| kbnd (x0.2.1[Int.toNat (Go.SL.w64 (Go.SL.w64 (4 * v2.1.1) + v9.1.1))]?) fun a12 => kgd (0 ≤ Go.SL.w64 (Go.SL.w64 (4 * v2.1.1) + v9.1.1)) <| kgd (Int.toNat (Go.SL.w64 (Go.SL.w64 (4 * v2.1.1) + v9.1.1)) < 16) <| kgd (Int.toNat (Go.SL.w64 (Go.SL.w64 (4 * v2.1.1) + v9.1.1)) < (List.length v9.2.1)) <| r10 ((Go.SL.w64 (v9.1.1 + 1), ()), (List.set v9.2.1 (Int.toNat (Go.SL.w64 (Go.SL.w64 (4 * v2.1.1) + v9.1.1))) (a11 ^^^ a12), ())))
 (r3 ((Go.SL.w64 (v2.1.1 + 1), ()), (v9.2.1, ())))) ((0, ()), (v2.2.1, ())))
 (fun j13 => kbr (!x0.2.2.1)
 (kbnd (K256 (v4.2.1, ()) ()) fun a14 => j13 ((), (a14.1.1, ())))
 (j13 ((), (v4.2.1, ())))))) ((0, ()), (List.replicate 4 0#8, ())))
 (some ((v2.2.1, ()), ()))) ((0, ()), (List.replicate 16 0#8, ()))
theorem kF238 (x0) (x1) : F238 x0 x1 = K238 x0 x1 := by
  unfold F238 K238
  (try simp only [bth_self]) <;> simp only [gdE_rfl, gdE_Tk, bnd_k, gd_k, br_k, jn_k, iter_k, bth_k, nlq_k, ob_k, kF255, kF256]
noncomputable def K220 (x0 : (List (List (BitVec 8))) × (List (BitVec 8)) × Unit) (x1 : Unit) : Option (((List (BitVec 8)) × Unit) × (List (List (BitVec 8))) × Unit) :=
 kgd ((0 : Int) ≤ 0) <| kgd ((0 : Nat) < 15) <| kbnd x0.1[0]? fun a2 => kbnd (K222 (x0.2.1, (a2, ())) ()) fun a3 => kiter (fun (v4 : ((Int) × Unit) × (List (BitVec 8)) × Unit) => fun r5 => kbr (decide (v4.1.1 < 15))
 (kgd (0 ≤ v4.1.1) <| kgd (Int.toNat v4.1.1 < 15) <| kbnd (x0.1[Int.toNat v4.1.1]?) fun a6 => kbnd (K238 (v4.2.1, (a6, ((v4.1.1 == 14), ()))) ()) fun a7 => r5 ((Go.SL.w64 (v4.1.1 + 1), ()), (a7.1.1, ())))
 (some ((v4.2.1, ()), (x0.1, ())))) ((1, ()), (a3.1.1, ()))
theorem kF220 (x0) (x1) : F220 x0 x1 = K220 x0 x1 := by
  unfold F220 K220
  (try simp only [bth_self]) <;> simp only [gdE_rfl, gdE_Tk, bnd_k, gd_k, br_k, jn_k, iter_k, bth_k, nlq_k, ob_k, kF222, kF238]
noncomputable def K202 (x0 : (List (BitVec 8)) × (List (BitVec 8)) × (BitVec 32) × Unit) (x1 : (List (BitVec 8)) × Unit) : Option (((List (BitVec 8)) × Unit) × Unit) :=
 kbnd (K217 () (x0.1, ())) fun a2 => kbnd (K171 () (x1.1, ())) fun a3 => kbnd (K218 (x0.2.1, (x0.2.2.1, ())) ()) fun a4 => kiter (fun (v5 : ((Int) × Unit) × (List (BitVec 8)) × (List (BitVec 8)) × (List (List (BitVec 8))) × Unit) => fun r6 => kbr (decide (v5.1.1 < (Nat.cast (List.length a3.1.1) : Int)))
 (kgd ((16 : Int) ≠ 0) <| kbr (Int.tmod v5.1.1 16 == 0)
 (kbr (cond true (decide (v5.1.1 > 0)) false)
 (kbnd (K219 (v5.2.1, ()) ()) fun a7 => kgd ((16 : Int) ≠ 0) <| kbr (Int.tmod v5.1.1 16 == 0)
 (kbnd (K220 (v5.2.2.2.1, (a7.1.1, ())) ()) fun a8 => kgd (0 ≤ v5.1.1) <| kgd (0 ≤ imin (Go.SL.w64 (v5.1.1 + 16)) (Nat.cast (List.length v5.2.2.1) : Int)) <| kgd (Int.toNat v5.1.1 ≤ Int.toNat (imin (Go.SL.w64 (v5.1.1 + 16)) (Nat.cast (List.length v5.2.2.1) : Int))) <| kgd (Int.toNat (imin (Go.SL.w64 (v5.1.1 + 16)) (Nat.cast (List.length v5.2.2.1) : Int)) ≤ (List.length v5.2.2.1)) <| kiter (fun (v9 : ((Int) × Unit) × (List (BitVec 8)) × Unit) => fun r10 => kbr (decide (v9.1.1 < (Nat.cast (Int.toNat (imin (Go.SL.w64 (v5.1.1 + 16)) (Nat.cast (List.length v5.2.2.1) : Int)) - Int.toNat v5.1.1) : Int)))
 (kgd (0 ≤ v9.1.1) <| kgd (Int.toNat v9.1.1 < (Int.toNat (imin (Go.SL.w64 (v5.1.1 + 16)) (Nat.cast (List.length v5.2.2.1) : Int)) - Int.toNat v5.1.1)) <| kbnd (v9.2.1[(Int.toNat v5.1.1 + Int.toNat v9.1.1)]?) fun a11 => kgd (0 ≤ v9.1.1) <| kgd (Int.toNat v9.1.1 < 16) <| kbnd (a8.1.1[Int.toNat v9.1.1]?) fun a12 => kgd (0 ≤ v9.1.1) <| kgd (Int.toNat v9.1.1 < (Int.toNat (imin (Go.SL.w64 (v5.1.1 + 16)) (Nat.cast (List.length v5.2.2.1) : Int)) - Int.toNat v5.1.1)) <| kgd ((Int.toNat v5.1.1 + Int.toNat v9.1.1) < (List.length v9.2.1)) <| r10 ((Go.SL.w64 (v9.1.1 + 1), ()), (List.set v9.2.1 (Int.toNat v5.1.1 + Int.toNat v9.1.1) (a11 ^^^ a12), ())))
 (r6 ((Go.SL.w64 (v5.1.1 + 1), ()), (a7.1.1, (v9.2.1, (a8.2.1, ())))))) ((0, ()), (v5.2.2.1, ())))
 (r6 ((Go.SL.w64 (v5.1.1 + 1), ()), (a7.1.1, (v5.2.2.1, (v5.2.2.2.1, ()))))))
 (kgd ((16 : Int) ≠ 0) <| kbr (Int.tmod v5.1.1 16 == 0)
 (kbnd (K220 (v5.2.2.2.1, (v5.2.1, ())) ()) fun a13 => kgd (0 ≤ v5.1.1) <| kgd (0 ≤ imin (Go.SL.w64 (v5.1.1 + 16)) (Nat.cast (List.length v5.2.2.1) : Int)) <| kgd (Int.toNat v5.1.1 ≤ Int.toNat (imin (Go.SL.w64 (v5.1.1 + 16)) (Nat.cast (List.length v5.2.2.1) : Int))) <| kgd (Int.toNat (imin (Go.SL.w64 (v5.1.1 + 16)) (Nat.cast (List.length v5.2.2.1) : Int)) ≤ (List.length v5.2.2.1)) <| kiter (fun (v14 : ((Int) × Unit) × (List (BitVec 8)) × Unit) => fun r15 => kbr (decide (v14.1.1 < (Nat.cast (Int.toNat (imin (Go.SL.w64 (v5.1.1 + 16)) (Nat.cast (List.length v5.2.2.1) : Int)) - Int.toNat v5.1.1) : Int)))
 (kgd (0 ≤ v14.1.1) <| kgd (Int.toNat v14.1.1 < (Int.toNat (imin (Go.SL.w64 (v5.1.1 + 16)) (Nat.cast (List.length v5.2.2.1) : Int)) - Int.toNat v5.1.1)) <| kbnd (v14.2.1[(Int.toNat v5.1.1 + Int.toNat v14.1.1)]?) fun a16 => kgd (0 ≤ v14.1.1) <| kgd (Int.toNat v14.1.1 < 16) <| kbnd (a13.1.1[Int.toNat v14.1.1]?) fun a17 => kgd (0 ≤ v14.1.1) <| kgd (Int.toNat v14.1.1 < (Int.toNat (imin (Go.SL.w64 (v5.1.1 + 16)) (Nat.cast (List.length v5.2.2.1) : Int)) - Int.toNat v5.1.1)) <| kgd ((Int.toNat v5.1.1 + Int.toNat v14.1.1) < (List.length v14.2.1)) <| r15 ((Go.SL.w64 (v14.1.1 + 1), ()), (List.set v14.2.1 (Int.toNat v5.1.1 + Int.toNat v14.1.1) (a16 ^^^ a17), ())))
 (r6 ((Go.SL.w64 (v5.1.1 + 1), ()), (v5.2.1, (v14.2.1, (a13.2.1, ())))))) ((0, ()), (v5.2.2.1, ())))
 (r6 ((Go.SL.w64 (v5.1.1 + 1), ()), (v5.2.1, (v5.2.2.1, (v5.2.2.2.1, ())))))))
 (kgd ((16 : Int) ≠ 0) <| kbr (Int.tmod v5.1.1 16 == 0)
 (kbnd (K220 (v5.2.2.2.1, (v5.2.1, ())) ()) fun a18 => kgd (0 ≤ v5.1.1) <| kgd (0 ≤ imin (Go.SL.w64 (v5.1.1 + 16)) (Nat.cast (List.length v5.2.2.1) : Int)) <| kgd (Int.toNat v5.1.1 ≤ Int.toNat (imin (Go.SL.w64 (v5.1.1 + 16)) (Nat.cast (List.length v5.2.2.1) : Int))) <| kgd (Int.toNat (imin (Go.SL.w64 (v5.1.1 + 16)) (Nat.cast (List.length v5.2.2.1) : Int)) ≤ (List.length v5.2.2.1)) <| kiter (fun (v19 : ((Int) × Unit) × (List (BitVec 8)) × Unit) => fun r20 => kbr (decide (v19.1.1 < (Nat.cast (Int.toNat (imin (Go.SL.w64 (v5.1.1 + 16)) (Nat.cast (List.length v5.2.2.1) : Int)) - Int.toNat v5.1.1) : Int)))
 (kgd (0 ≤ v19.1.1) <| kgd (Int.toNat v19.1.1 < (Int.toNat (imin (Go.SL.w64 (v5.1.1 + 16)) (Nat.cast (List.length v5.2.2.1) : Int)) - Int.toNat v5.1.1)) <| kbnd (v19.2.1[(Int.toNat v5.1.1 + Int.toNat v19.1.1)]?) fun a21 => kgd (0 ≤ v19.1.1) <| kgd (Int.toNat v19.1.1 < 16) <| kbnd (a18.1.1[Int.toNat v19.1.1]?) fun a22 => kgd (0 ≤ v19.1.1) <| kgd (Int.toNat v19.1.1 < (Int.toNat (imin (Go.SL.w64 (v5.1.1 + 16)) (Nat.cast (List.length v5.2.2.1) : Int)) - Int.toNat v5.1.1)) <| kgd ((Int.toNat v5.1.1 + Int.toNat v19.1.1) < (List.length v19.2.1)) <| r20 ((Go.SL.w64 (v19.1.1 + 1), ()), (List.set v19.2.1 (Int.toNat v5.1.1 + Int.toNat v19.1.1) (a21 ^^^ a22), ())))
 (r6 ((Go.SL.w64 (v5.1.1 + 1), ()), (v5.2.1, (v19.2.1, (a18.2.1, ())))))) ((0, ()), (v5.2.2.1, ())))
 (r6 ((Go.SL.w64 (v5.1.1 + 1), ()), (v5.2.1, (v5.2.2.1, (v5.2.2.2.1, ())))))))
 (some ((v5.2.2.1, ()), ()))) ((0, ()), (a4.1.1, (a3.1.1, (a2.1.1, ()))))
theorem kF202 (x0) (x1) : F202 x0 x1 = K202 x0 x1 := by
  unfold F202 K202
  (try simp only [bth_self]) <;> simp only [gdE_rfl, gdE_Tk, bnd_k, gd_k, br_k, jn_k, iter_k, bth_k, nlq_k, ob_k, kF171, kF217, kF218, kF219, kF220]
noncomputable def K221 (x0 : (List (BitVec 8)) × Unit) (x1 : Unit) : Option (((List (BitVec 8)) × Unit) × Unit) :=
 kgd ((16 : Int) ≠ 0) <| kgd ((16 : Int) ≠ 0) <| kgd (0 ≤ Int.tmod (Go.SL.w64 (16 - Int.tmod (Nat.cast (List.length x0.1) : Int) 16)) 16) <| kgd (few9 (List.length x0.1) (Int.toNat (Int.tmod (Go.SL.w64 (16 - Int.tmod (Nat.cast (List.length x0.1) : Int) 16)) 16))) <| some (((x0.1 ++ List.replicate (Int.toNat (Int.tmod (Go.SL.w64 (16 - Int.tmod (Nat.cast (List.length x0.1) : Int) 16)) 16)) 0#8), ()), ())
theorem kF221 (x0) (x1) : F221 x0 x1 = K221 x0 x1 := by
  unfold F221 K221
  (try simp only [bth_self]) <;> simp only [gdE_rfl, gdE_Tk, bnd_k, gd_k, br_k, jn_k, iter_k, bth_k, nlq_k, ob_k]
noncomputable def K257 (x0 : (List (BitVec 8)) × Unit) (x1 : Unit) : Option (((BitVec 64) × (BitVec 64) × Unit) × Unit) :=
 kiter (fun (v2 : ((Int) × (BitVec 64) × (BitVec 64) × Unit) × Unit) => fun r3 => kbr (decide (v2.1.1 < 8))
 (kgd (0 ≤ v2.1.1) <| kgd (Int.toNat v2.1.1 < 16) <| kbnd (x0.1[Int.toNat v2.1.1]?) fun a4 => kgd (0 ≤ Go.SL.w64 (v2.1.1 + 8)) <| kgd (Int.toNat (Go.SL.w64 (v2.1.1 + 8)) < 16) <| kbnd (x0.1[Int.toNat (Go.SL.w64 (v2.1.1 + 8))]?) fun a5 => r3 ((Go.SL.w64 (v2.1.1 + 1), (((v2.1.2.1 <<< 8) ||| BitVec.setWidth 64 a5), (((v2.1.2.2.1 <<< 8) ||| BitVec.setWidth 64 a4), ()))), ()))
 (some ((v2.1.2.2.1, (v2.1.2.1, ())), ()))) ((0, (0#64, (0#64, ()))), ())
theorem kF257 (x0) (x1) : F257 x0 x1 = K257 x0 x1 := by
  unfold F257 K257
  (try simp only [bth_self]) <;> simp only [gdE_rfl, gdE_Tk, bnd_k, gd_k, br_k, jn_k, iter_k, bth_k, nlq_k, ob_k]
noncomputable def K258 (x0 : (BitVec 64) × (BitVec 64) × Unit) (x1 : Unit) : Option (((List (BitVec 8)) × Unit) × Unit) :=
 kiter (fun (v2 : ((Int) × Unit) × (List (BitVec 8)) × Unit) => fun r3 => kbr (decide (v2.1.1 < 8))
 (kgd (0 ≤ Go.SL.w64 (56 - Go.SL.w64 (8 * v2.1.1))) <| kgd (0 ≤ Go.SL.w64 (56 - Go.SL.w64 (8 * v2.1.1))) <| kgd (0 ≤ v2.1.1) <| kgd (Int.toNat v2.1.1 < 16) <| kgd (Int.toNat v2.1.1 < (List.length v2.2.1)) <| kgd (0 ≤ Go.SL.w64 (v2.1.1 + 8)) <| kgd (Int.toNat (Go.SL.w64 (v2.1.1 + 8)) < 16) <| kgd (Int.toNat (Go.SL.w64 (v2.1.1 + 8)) < (List.length (List.set v2.2.1 (Int.toNat v2.1.1) (BitVec.setWidth 8 (x0.1 >>> Int.toNat (Go.SL.w64 (56 - Go.SL.w64 (8 * v2.1.1)))))))) <| r3 ((Go.SL.w64 (v2.1.1 + 1), ()), (List.set (List.set v2.2.1 (Int.toNat v2.1.1) (BitVec.setWidth 8 (x0.1 >>> Int.toNat (Go.SL.w64 (56 - Go.SL.w64 (8 * v2.1.1)))))) (Int.toNat (Go.SL.w64 (v2.1.1 + 8))) (BitVec.setWidth 8 (x0.2.1 >>> Int.toNat (Go.SL.w64 (56 - Go.SL.w64 (8 * v2.1.1))))), ())))
 (some ((v2.2.1, ()), ()))) ((0, ()), (List.replicate 16 0#8, ()))
theorem kF258 (x0) (x1) : F258 x0 x1 = K258 x0 x1 := by
  unfold F258 K258
  (try simp only [bth_self]) <;> simp only [gdE_rfl, gdE_Tk, bnd_k, gd_k, br_k, jn_k, iter_k, bth_k, nlq_k, ob_k]
noncomputable def K239 (x0 : (List (BitVec 8)) × (List (BitVec 8)) × Unit) (x1 : Unit) : Option (((List (BitVec 8)) × Unit) × Unit) :=
 kbnd (K257 (x0.1, ()) ()) fun a2 => kbnd (K257 (x0.2.1, ()) ()) fun a3 => kiter (fun (v4 : ((Int) × (BitVec 64) × (BitVec 64) × (BitVec 64) × (BitVec 64) × Unit) × Unit) => fun r5 => kbr (decide (v4.1.1 < 128))
 (kjn (fun (v6 : ((BitVec 64) × Unit) × Unit) => kgd ((64 : Int) ≠ 0) <| kgd (0 ≤ Go.SL.w64 (63 - Int.tmod v4.1.1 64)) <| r5 ((Go.SL.w64 (v4.1.1 + 1), ((v4.1.2.1 ^^^ (v4.1.2.2.2.1 &&& (-((v6.1.1 >>> Int.toNat (Go.SL.w64 (63 - Int.tmod v4.1.1 64))) &&& 1#64)))), ((v4.1.2.2.1 ^^^ (v4.1.2.2.2.2.1 &&& (-((v6.1.1 >>> Int.toNat (Go.SL.w64 (63 - Int.tmod v4.1.1 64))) &&& 1#64)))), (((v4.1.2.2.2.1 >>> 1) ||| (v4.1.2.2.2.2.1 <<< 63)), (((v4.1.2.2.2.2.1 >>> 1) ^^^ (16212958658533785600#64 &&& (-(v4.1.2.2.2.1 &&& 1#64)))), ()))))), ()))
 (fun j7 => kbr (decide (v4.1.1 ≥ 64))
 (j7 ((a2.1.2.1, ()), ()))
 (j7 ((a2.1.1, ()), ()))))
 (kbnd (K258 (v4.1.2.2.1, (v4.1.2.1, ())) ()) fun a8 => some ((a8.1.1, ()), ()))) ((0, (0#64, (0#64, (a3.1.2.1, (a3.1.1, ()))))), ())
theorem kF239 (x0) (x1) : F239 x0 x1 = K239 x0 x1 := by
  unfold F239 K239
  (try simp only [bth_self]) <;> simp only [gdE_rfl, gdE_Tk, bnd_k, gd_k, br_k, jn_k, iter_k, bth_k, nlq_k, ob_k, kF257, kF258]
noncomputable def K223 (x0 : (List (BitVec 8)) × Unit) (x1 : (List (BitVec 8)) × Unit) : Option (((List (BitVec 8)) × Unit) × Unit) :=
 kiter (fun (v2 : ((List (BitVec 8)) × Unit) × (List (BitVec 8)) × Unit) => fun r3 => kbr (decide ((Nat.cast (List.length v2.1.1) : Int) > 0))
 (kgd ((0 : Nat) ≤ 16) <| kgd ((16 : Nat) ≤ 16) <| kgd ((0 : Nat) < 16) <| kgd ((16 : Nat) ≤ 16) <| kgd (0 ≤ (Nat.cast (Min.min (List.length v2.1.1) 16) : Int)) <| kgd (Int.toNat (Nat.cast (Min.min (List.length v2.1.1) 16) : Int) ≤ (List.length v2.1.1)) <| kgd ((List.length v2.1.1) ≤ (List.length v2.1.1)) <| kbnd (K222 (v2.2.1, (ovl (List.replicate 16 0#8) 0 (List.take 16 v2.1.1), ())) ()) fun a4 => kbnd (K239 (a4.1.1, (x0.1, ())) ()) fun a5 => r3 ((List.drop (Int.toNat (Nat.cast (Min.min (List.length v2.1.1) 16) : Int)) (List.take (List.length v2.1.1) v2.1.1), ()), (a5.1.1, ())))
 (some ((v2.2.1, ()), ()))) ((x1.1, ()), (List.replicate 16 0#8, ()))
theorem kF223 (x0) (x1) : F223 x0 x1 = K223 x0 x1 := by
  unfold F223 K223
  (try simp only [bth_self]) <;> simp only [gdE_rfl, gdE_Tk, bnd_k, gd_k, br_k, jn_k, iter_k, bth_k, nlq_k, ob_k, kF222, kF239]
noncomputable def K203 (x0 : (List (BitVec 8)) × (List (BitVec 8)) × Unit) (x1 : (List (BitVec 8)) × (List (BitVec 8)) × Unit) : Option (((List (BitVec 8)) × Unit) × Unit) :=
 kbnd (K217 () (x0.1, ())) fun a2 => kbnd (K171 () (x1.1, ())) fun a3 => kbnd (K221 (a3.1.1, ()) ()) fun a4 => kgd (few (List.length a4.1.1) (List.length x1.2.1)) <| kbnd (K221 ((a4.1.1 ++ x1.2.1), ()) ()) fun a5 => kiter (fun (v6 : ((Int) × (List (BitVec 8)) × Unit) × Unit) => fun r7 => kbr (decide (v6.1.1 < (Nat.cast (List.length (((Nat.cast (List.length x1.1) : Int) :: ((Nat.cast (List.length x1.2.1) : Int) :: [])) : List (Int))) : Int)))
 (kgd (0 ≤ v6.1.1) <| kgd (Int.toNat v6.1.1 < (List.length (((Nat.cast (List.length x1.1) : Int) :: ((Nat.cast (List.length x1.2.1) : Int) :: [])) : List (Int)))) <| kbnd (((Nat.cast (List.length x1.1) : Int) :: ((Nat.cast (List.length x1.2.1) : Int) :: []))[Int.toNat v6.1.1]?) fun a8 => kiter (fun (v9 : ((Int) × (List (BitVec 8)) × Unit) × Unit) => fun r10 => kbr (decide (v9.1.1 < 8))
 (kgd (0 ≤ Go.SL.w64 (56 - Go.SL.w64 (8 * v9.1.1))) <| kgd (few (List.length v9.1.2.1) (List.length ((BitVec.ofInt 8 (Go.SL.ishr64 (Go.SL.w64 (8 * a8)) (Int.toNat (Go.SL.w64 (56 - Go.SL.w64 (8 * v9.1.1))))) :: []) : List (BitVec 8)))) <| r10 ((Go.SL.w64 (v9.1.1 + 1), ((v9.1.2.1 ++ (BitVec.ofInt 8 (Go.SL.ishr64 (Go.SL.w64 (8 * a8)) (Int.toNat (Go.SL.w64 (56 - Go.SL.w64 (8 * v9.1.1))))) :: [])), ())), ()))
 (r7 ((Go.SL.w64 (v6.1.1 + 1), (v9.1.2.1, ())), ()))) ((0, (v6.1.2.1, ())), ()))
 (kbnd (K220 (a2.1.1, (List.replicate 16 0#8, ())) ()) fun a11 => kbnd (K223 (a11.1.1, ()) (v6.1.2.1, ())) fun a12 => kbnd (K218 (x0.2.1, (1#32, ())) ()) fun a13 => kbnd (K220 (a11.2.1, (a13.1.1, ())) ()) fun a14 => kbnd (K222 (a12.1.1, (a14.1.1, ())) ()) fun a15 => some ((a15.1.1, ()), ()))) ((0, (a5.1.1, ())), ())
theorem kF203 (x0) (x1) : F203 x0 x1 = K203 x0 x1 := by
  unfold F203 K203
  (try simp only [bth_self]) <;> simp only [gdE_rfl, gdE_Tk, bnd_k, gd_k, br_k, jn_k, iter_k, bth_k, nlq_k, ob_k, kF171, kF217, kF218, kF220, kF221, kF222, kF223]
noncomputable def K177 (x0 : (List (BitVec 8)) × (List (BitVec 8)) × Unit) (x1 : (List (BitVec 8)) × (List (BitVec 8)) × Unit) : Option (((List (BitVec 8)) × Unit) × Unit) :=
 kbnd (K202 (x0.1, (x0.2.1, (2#32, ()))) (x1.2.1, ())) fun a2 => kbnd (K203 (x0.1, (x0.2.1, ())) (x1.1, (a2.1.1, ()))) fun a3 => kgd (0 ≤ (Nat.cast (List.length a2.1.1) : Int)) <| kgd (0 ≤ (Nat.cast (List.length a2.1.1) : Int)) <| kgd (Int.toNat (Nat.cast (List.length a2.1.1) : Int) = (List.length a2.1.1)) <| kgd (Int.toNat (Nat.cast (List.length a2.1.1) : Int) = (List.length a2.1.1)) <| kgd ((0 : Nat) ≤ 16) <| kgd ((16 : Nat) ≤ 16) <| kgd (16 ≤ (List.length a3.1.1)) <| kgd (few (List.length a2.1.1) (List.length (List.take 16 (List.drop 0 a3.1.1)))) <| some (((a2.1.1 ++ List.take 16 (List.drop 0 a3.1.1)), ()), ())
theorem kF177 (x0) (x1) : F177 x0 x1 = K177 x0 x1 := by
  unfold F177 K177
  (try simp only [bth_self]) <;> simp only [gdE_rfl, gdE_Tk, bnd_k, gd_k, br_k, jn_k, iter_k, bth_k, nlq_k, ob_k, kF202, kF203]
noncomputable def K128 (x0 : ((List ((Bool) × (List ((List (BitVec 8)) × (Int) × (Bool) × Unit)) × Unit)) × Unit) × (Int) × Unit) (x1 : (List (BitVec 8)) × (List (BitVec 8)) × Unit) : Option (((List (BitVec 8)) × (Int) × (Int) × Unit) × ((List ((Bool) × (List ((List (BitVec 8)) × (Int) × (Bool) × Unit)) × Unit)) × Unit) × Unit) :=
 kbr (decide ((Nat.cast (List.length x1.1) : Int) > 64))
 (some (([], (0, (2, ()))), (x0.1, ())))
 (kbr (cond false true (decide ((Nat.cast (List.length x1.2.1) : Int) > 32)))
 (some (([], (0, (2, ()))), (x0.1, ())))
 (kbnd (K175 (x0.1, (x0.2.1, ())) ()) fun a2 => kbr (a2.1.2.2.2.1 != 0)
 (some (([], (0, (a2.1.2.2.2.1, ()))), (a2.2.1, ())))
 (kiter (fun (v3 : ((Int) × Unit) × (List (BitVec 8)) × Unit) => fun r4 => kbr (decide (v3.1.1 < 8))
 (kgd (0 ≤ Go.SL.w64 (8 * v3.1.1)) <| kgd (0 ≤ Go.SL.w64 (11 - v3.1.1)) <| kgd (Int.toNat (Go.SL.w64 (11 - v3.1.1)) < 12) <| kgd (Int.toNat (Go.SL.w64 (11 - v3.1.1)) < (List.length v3.2.1)) <| r4 ((Go.SL.w64 (v3.1.1 + 1), ()), (List.set v3.2.1 (Int.toNat (Go.SL.w64 (11 - v3.1.1))) (BitVec.ofInt 8 (Go.SL.ishr64 a2.1.2.1 (Int.toNat (Go.SL.w64 (8 * v3.1.1))))), ())))
 (kbnd (K177 (a2.1.2.2.1, (v3.2.1, ())) (x1.2.1, (x1.1, ()))) fun a5 => kbnd (K176 (x0.2.1, (a2.1.1, (v3.2.1, ()))) (a5.1.1, ())) fun a6 => some ((a6.1.1, (a2.1.1, (0, ()))), (a2.2.1, ())))) ((0, ()), (List.replicate 12 0#8, ())))))
theorem kF128 (x0) (x1) : F128 x0 x1 = K128 x0 x1 := by
  unfold F128 K128
  (try simp only [bth_self]) <;> simp only [gdE_rfl, gdE_Tk, bnd_k, gd_k, br_k, jn_k, iter_k, bth_k, nlq_k, ob_k, kF175, kF176, kF177]
noncomputable def K158 (x0 : Unit) (x1 : (List (BitVec 8)) × Unit) : Option (((Int) × (List (BitVec 8)) × (Int) × Unit) × Unit) :=
 kbr ((Nat.cast (List.length x1.1) : Int) == 0)
 (kbnd (K171 () ([], ())) fun a2 => some ((0, (a2.1.1, (3, ()))), ()))
 (kgd ((0 : Int) ≤ 0) <| kbnd x1.1[0]? fun a3 => kbr (decide ((Nat.cast (BitVec.toNat a3) : Int) > 8))
 (kbnd (K171 () ([], ())) fun a4 => some ((0, (a4.1.1, (80, ()))), ()))
 (kbr (decide ((Nat.cast (List.length x1.1) : Int) < Go.SL.w64 (1 + (Nat.cast (BitVec.toNat a3) : Int))))
 (kbnd (K171 () ([], ())) fun a5 => some ((0, (a5.1.1, (3, ()))), ()))
 (kgd ((0 : Int) ≤ 1) <| kgd (0 ≤ Go.SL.w64 (1 + (Nat.cast (BitVec.toNat a3) : Int))) <| kgd (1 ≤ Int.toNat (Go.SL.w64 (1 + (Nat.cast (BitVec.toNat a3) : Int)))) <| kgd (Int.toNat (Go.SL.w64 (1 + (Nat.cast (BitVec.toNat a3) : Int))) ≤ (List.length x1.1)) <| kiter (fun (v6 : ((Int) × (Int) × Unit) × Unit) => fun r7 => kbr (decide (v6.1.1 < (Nat.cast (List.length (List.drop 1 (List.take (Int.toNat (Go.SL.w64 (1 + (Nat.cast (BitVec.toNat a3) : Int)))) x1.1))) : Int)))
 (kgd (0 ≤ v6.1.1) <| kbnd ((List.drop 1 (List.take (Int.toNat (Go.SL.w64 (1 + (Nat.cast (BitVec.toNat a3) : Int)))) x1.1))[Int.toNat v6.1.1]?) fun a8 => r7 ((Go.SL.w64 (v6.1.1 + 1), (Go.SL.ior64 (Go.SL.ishl64 v6.1.2.1 8) (Nat.cast (BitVec.toNat a8) : Int), ())), ()))
 (kbr (decide (v6.1.2.1 < 0))
 (kbnd (K171 () ([], ())) fun a9 => some ((0, (a9.1.1, (80, ()))), ()))
 (kbnd (K190 (BitVec.ofInt 64 v6.1.2.1, ()) ()) fun a10 => kgd ((8 : Int) ≠ 0) <| kbr (cond false true (Go.SL.w64 (Int.tdiv (Go.SL.w64 (a10.1.1 + 7)) 8) != (Nat.cast (BitVec.toNat a3) : Int)))
 (kbnd (K171 () ([], ())) fun a11 => some ((0, (a11.1.1, (80, ()))), ()))
 (kgd (0 ≤ Go.SL.w64 (1 + (Nat.cast (BitVec.toNat a3) : Int))) <| kgd (Int.toNat (Go.SL.w64 (1 + (Nat.cast (BitVec.toNat a3) : Int))) ≤ (List.length x1.1)) <| kgd ((List.length x1.1) ≤ (List.length x1.1)) <| kbnd (K171 () (List.drop (Int.toNat (Go.SL.w64 (1 + (Nat.cast (BitVec.toNat a3) : Int)))) (List.take (List.length x1.1) x1.1), ())) fun a12 => some ((v6.1.2.1, (a12.1.1, (0, ()))), ()))))) ((0, (0, ())), ()))))
theorem kF158 (x0) (x1) : F158 x0 x1 = K158 x0 x1 := by
  unfold F158 K158
  (try simp only [bth_self]) <;> simp only [gdE_rfl, gdE_Tk, bnd_k, gd_k, br_k, jn_k, iter_k, bth_k, nlq_k, ob_k, kF171, kF190]
noncomputable def K178 (x0 : Unit) (x1 : (List (BitVec 8)) × Unit) : Option (((Int) × (Int) × (List (BitVec 8)) × (List (BitVec 8)) × (Int) × Unit) × Unit) :=
 kbnd (K158 () (x1.1, ())) fun a2 => kbnd (K158 () (a2.1.2.1, ())) fun a3 => kbr (a2.1.2.2.1 != 0)
 (some ((0, (0, (List.replicate 12 0#8, ([], (140, ()))))), ()))
 (kbr (cond false true (a3.1.2.2.1 != 0))
 (some ((0, (0, (List.replicate 12 0#8, ([], (140, ()))))), ()))
 (kbr (cond false true (decide (imin a2.1.1 a3.1.1 < 1)))
 (some ((0, (0, (List.replicate 12 0#8, ([], (140, ()))))), ()))
 (kbr (cond false true (decide ((Nat.cast (List.length a3.1.2.1) : Int) < 28)))
 (some ((0, (0, (List.replicate 12 0#8, ([], (140, ()))))), ()))
 (kbr (cond false true (decide ((Nat.cast (List.length a3.1.2.1) : Int) > 92)))
 (some ((0, (0, (List.replicate 12 0#8, ([], (140, ()))))), ()))
 (kgd ((0 : Nat) ≤ 12) <| kgd ((12 : Nat) ≤ 12) <| kgd ((0 : Nat) < 12) <| kgd ((12 : Nat) ≤ 12) <| kgd ((0 : Int) ≤ 12) <| kgd (12 ≤ (List.length a3.1.2.1)) <| kgd ((List.length a3.1.2.1) ≤ (List.length a3.1.2.1)) <| some ((a2.1.1, (a3.1.1, (ovl (List.replicate 12 0#8) 0 (List.take 12 a3.1.2.1), (List.drop 12 (List.take (List.length a3.1.2.1) a3.1.2.1), (0, ()))))), ()))))))
theorem kF178 (x0) (x1) : F178 x0 x1 = K178 x0 x1 := by
  unfold F178 K178
  (try simp only [bth_self]) <;> simp only [gdE_rfl, gdE_Tk, bnd_k, gd_k, br_k, jn_k, iter_k, bth_k, nlq_k, ob_k, kF158]
noncomputable def K179 (x0 : ((List ((Bool) × (List ((List (BitVec 8)) × (Int) × (Bool) × Unit)) × Unit)) × Unit) × (Int) × (Int) × Unit) (x1 : Unit) : Option (((List (BitVec 8)) × (Int) × Unit) × ((List ((Bool) × (List ((List (BitVec 8)) × (Int) × (Bool) × Unit)) × Unit)) × Unit) × Unit) :=
 kbr (decide (x0.2.1 < 1))
 (some ((List.replicate 32 0#8, (130, ())), (x0.1, ())))
 (kbr (cond false true (decide (x0.2.1 > (Nat.cast (List.length x0.1.1) : Int))))
 (some ((List.replicate 32 0#8, (130, ())), ((x0.1.1, ()), ())))
 (kgd (0 ≤ Go.SL.w64 (x0.2.1 - 1)) <| kgd (Int.toNat (Go.SL.w64 (x0.2.1 - 1)) < (List.length x0.1.1)) <| kbr (cond false true (decide (x0.2.2.1 < 1)))
 (some ((List.replicate 32 0#8, (130, ())), ((x0.1.1, ()), ())))
 (kbnd (x0.1.1[Int.toNat (Go.SL.w64 (x0.2.1 - 1))]?) fun a2 => kbr (cond false true (decide (x0.2.2.1 > (Nat.cast (List.length a2.2.1) : Int))))
 (some ((List.replicate 32 0#8, (130, ())), ((List.set x0.1.1 (Int.toNat (Go.SL.w64 (x0.2.1 - 1))) (a2.1, (a2.2.1, ())), ()), ())))
 (kgd (Int.toNat (Go.SL.w64 (x0.2.1 - 1)) = Int.toNat (Go.SL.w64 (x0.2.1 - 1))) <| kgd (0 ≤ Go.SL.w64 (x0.2.2.1 - 1)) <| kgd (Int.toNat (Go.SL.w64 (x0.2.2.1 - 1)) < (List.length a2.2.1)) <| kbr (decide (x0.2.1 < 1))
 (none)
 (kbr (cond false true (decide (x0.2.1 > (Nat.cast (List.length x0.1.1) : Int))))
 (none)
 (kgd (0 ≤ Go.SL.w64 (x0.2.1 - 1)) <| kgd (Int.toNat (Go.SL.w64 (x0.2.1 - 1)) < (List.length x0.1.1)) <| kgd (Int.toNat (Go.SL.w64 (x0.2.1 - 1)) = Int.toNat (Go.SL.w64 (x0.2.1 - 1))) <| kbr a2.1
 (some ((List.replicate 32 0#8, (131, ())), ((List.set x0.1.1 (Int.toNat (Go.SL.w64 (x0.2.1 - 1))) (a2.1, (a2.2.1, ())), ()), ())))
 (kbnd (a2.2.1[Int.toNat (Go.SL.w64 (x0.2.2.1 - 1))]?) fun a3 => kbr a3.2.2.1
 (some ((List.replicate 32 0#8, (132, ())), ((List.set x0.1.1 (Int.toNat (Go.SL.w64 (x0.2.1 - 1))) (a2.1, (a2.2.1, ())), ()), ())))
 (kbnd (a2.2.1[Int.toNat (Go.SL.w64 (x0.2.2.1 - 1))]?) fun a4 => some ((a4.1, (0, ())), ((List.set x0.1.1 (Int.toNat (Go.SL.w64 (x0.2.1 - 1))) (a2.1, (a2.2.1, ())), ()), ()))))))))))
theorem kF179 (x0) (x1) : F179 x0 x1 = K179 x0 x1 := by
  unfold F179 K179
  (try simp only [bth_self]) <;> simp only [gdE_rfl, gdE_Tk, bnd_k, gd_k, br_k, jn_k, iter_k, bth_k, nlq_k, ob_k]
noncomputable def K180 (x0 : (List (BitVec 8)) × (List (BitVec 8)) × Unit) (x1 : (List (BitVec 8)) × (List (BitVec 8)) × Unit) : Option (((List (BitVec 8)) × (Int) × Unit) × Unit) :=
 kbr (decide (Go.SL.w64 ((Nat.cast (List.length x1.2.1) : Int) - 16) < 0))
 (some (([], (3, ())), ()))
 (kgd (0 ≤ Go.SL.w64 ((Nat.cast (List.length x1.2.1) : Int) - 16)) <| kgd (0 ≤ Int.toNat (Go.SL.w64 ((Nat.cast (List.length x1.2.1) : Int) - 16))) <| kgd (Int.toNat (Go.SL.w64 ((Nat.cast (List.length x1.2.1) : Int) - 16)) ≤ (List.length x1.2.1)) <| (kbnd (K203 (x0.1, (x0.2.1, ())) (x1.1, (List.drop 0 (List.take (Int.toNat (Go.SL.w64 ((Nat.cast (List.length x1.2.1) : Int) - 16))) x1.2.1), ()))) fun a2 => kiter (fun (v3 : ((Int) × (BitVec 8) × Unit) × Unit) => fun r4 => kbr (decide (v3.1.1 < 16))
 (kgd (0 ≤ v3.1.1) <| kgd (Int.toNat v3.1.1 < 16) <| kbnd (a2.1.1[Int.toNat v3.1.1]?) fun a5 => kgd (0 ≤ Go.SL.w64 (Go.SL.w64 ((Nat.cast (List.length x1.2.1) : Int) - 16) + v3.1.1)) <| kbnd (x1.2.1[Int.toNat (Go.SL.w64 (Go.SL.w64 ((Nat.cast (List.length x1.2.1) : Int) - 16) + v3.1.1))]?) fun a6 => r4 ((Go.SL.w64 (v3.1.1 + 1), ((v3.1.2.1 ||| (a5 ^^^ a6)), ())), ()))
 (kbr (v3.1.2.1 != 0#8)
 (some (([], (40, ())), ()))
 (kgd (0 ≤ Go.SL.w64 ((Nat.cast (List.length x1.2.1) : Int) - 16)) <| kgd (0 ≤ Int.toNat (Go.SL.w64 ((Nat.cast (List.length x1.2.1) : Int) - 16))) <| kgd (Int.toNat (Go.SL.w64 ((Nat.cast (List.length x1.2.1) : Int) - 16)) ≤ (List.length x1.2.1)) <| kbnd (K202 (x0.1, (x0.2.1, (2#32, ()))) (List.drop 0 (List.take (Int.toNat (Go.SL.w64 ((Nat.cast (List.length x1.2.1) : Int) - 16))) x1.2.1), ())) fun a7 => some ((a7.1.1, (0, ())), ())))) ((0, (0#8, ())), ())))
theorem kF180 (x0) (x1) : F180 x0 x1 = K180 x0 x1 := by
  unfold F180 K180
  (try simp only [bth_self]) <;> simp only [gdE_rfl, gdE_Tk, bnd_k, gd_k, br_k, jn_k, iter_k, bth_k, nlq_k, ob_k, kF202, kF203]
noncomputable def K129 (x0 : ((List ((Bool) × (List ((List (BitVec 8)) × (Int) × (Bool) × Unit)) × Unit)) × Unit) × Unit) (x1 : (List (BitVec 8)) × (List (BitVec 8)) × Unit) : Option (((List (BitVec 8)) × (Int) × Unit) × ((List ((Bool) × (List ((List (BitVec 8)) × (Int) × (Bool) × Unit)) × Unit)) × Unit) × Unit) :=
 kbr (decide ((Nat.cast (List.length x1.2.1) : Int) > 32))
 (some (([], (2, ())), (x0.1, ())))
 (kbnd (K178 () (x1.1, ())) fun a2 => kbr (a2.1.2.2.2.2.1 != 0)
 (some (([], (a2.1.2.2.2.2.1, ())), (x0.1, ())))
 (kbnd (K179 (x0.1, (a2.1.1, (a2.1.2.1, ()))) ()) fun a3 => kbr (a3.1.2.1 != 0)
 (some (([], (a3.1.2.1, ())), (a3.2.1, ())))
 (kbnd (K180 (a3.1.1, (a2.1.2.2.1, ())) (x1.2.1, (a2.1.2.2.2.1, ()))) fun a4 => some ((a4.1.1, (a4.1.2.1, ())), (a3.2.1, ())))))
theorem kF129 (x0) (x1) : F129 x0 x1 = K129 x0 x1 := by
  unfold F129 K129
  (try simp only [bth_self]) <;> simp only [gdE_rfl, gdE_Tk, bnd_k, gd_k, br_k, jn_k, iter_k, bth_k, nlq_k, ob_k, kF178, kF179, kF180]
noncomputable def K130 (x0 : ((List ((Bool) × (List ((List (BitVec 8)) × (Int) × (Bool) × Unit)) × Unit)) × Unit) × Unit) (x1 : (List (BitVec 8)) × (List (BitVec 8)) × Unit) : Option (((List (BitVec 8)) × (Int) × (Int) × Unit) × ((List ((Bool) × (List ((List (BitVec 8)) × (Int) × (Bool) × Unit)) × Unit)) × Unit) × Unit) :=
 kbnd (K129 (x0.1, ()) (x1.1, (x1.2.1, ()))) fun a2 => kbr (a2.1.2.1 != 0)
 (some (([], (0, (a2.1.2.1, ()))), (a2.2.1, ())))
 (kbnd (K178 () (x1.1, ())) fun a3 => kbnd (K128 (a2.2.1, (a3.1.1, ())) (a2.1.1, (x1.2.1, ()))) fun a4 => some ((a4.1.1, (a4.1.2.1, (a4.1.2.2.1, ()))), (a4.2.1, ())))
theorem kF130 (x0) (x1) : F130 x0 x1 = K130 x0 x1 := by
  unfold F130 K130
  (try simp only [bth_self]) <;> simp only [gdE_rfl, gdE_Tk, bnd_k, gd_k, br_k, jn_k, iter_k, bth_k, nlq_k, ob_k, kF128, kF129, kF178]
noncomputable def K172 (x0 : ((List (BitVec 8)) × (List (BitVec 8)) × (Int) × Unit) × (Int) × Unit) (x1 : (List (BitVec 8)) × Unit) : Option (((List (BitVec 8)) × (Int) × Unit) × ((List (BitVec 8)) × (List (BitVec 8)) × (Int) × Unit) × Unit) :=
 kjn (fun (v2 : ((Bool) × Unit) × Unit) => kbr v2.1.1
 (some (([], (1, ())), (x0.1, ())))
 (kbr (decide (x0.1.2.2.1 > 1048576))
 (some (([], (70, ())), ((x0.1.1, (x0.1.2.1, (x0.1.2.2.1, ()))), ())))
 (kjn (fun (v3 : (Unit) × ((List (BitVec 8)) × (List (BitVec 8)) × (Int) × Unit) × Unit) => kiter (fun (v4 : ((List (BitVec 8)) × Unit) × ((List (BitVec 8)) × (List (BitVec 8)) × (Int) × Unit) × Unit) => fun r5 => kbr (decide ((Nat.cast (List.length v4.1.1) : Int) < x0.2.1))
 (kgd ((0 : Nat) ≤ 32) <| kgd ((32 : Nat) ≤ 32) <| kgd ((0 : Nat) ≤ 32) <| kgd ((32 : Nat) ≤ 32) <| kgd (32 ≤ (List.length v4.2.1.2.1)) <| kbnd (K201 () ((List.take 32 (List.drop 0 v4.2.1.2.1) :: []), ())) fun a6 => kgd (32 ≤ (List.length v4.2.1.1)) <| kbnd (K214 () (List.take 32 (List.drop 0 v4.2.1.1), (a6.1.1, ()))) fun a7 => kgd ((0 : Nat) ≤ 32) <| kgd ((32 : Nat) ≤ 32) <| kgd (32 ≤ (List.length a7.1.1)) <| kgd (few (List.length v4.1.1) (List.length (List.take 32 (List.drop 0 a7.1.1)))) <| r5 (((v4.1.1 ++ List.take 32 (List.drop 0 a7.1.1)), ()), ((v4.2.1.1, (a7.1.1, (v4.2.1.2.2.1, ()))), ())))
 (kbnd (K168 (v4.2.1, ()) (x1.1, ())) fun a8 => kgd (0 ≤ x0.2.1) <| kgd (0 ≤ Int.toNat x0.2.1) <| kgd (Int.toNat x0.2.1 ≤ (List.length v4.1.1)) <| kgd ((0 + (Int.toNat x0.2.1 - 0)) ≤ (List.length v4.1.1)) <| some ((List.take (Int.toNat x0.2.1 - 0) (List.drop 0 v4.1.1), (0, ())), ((a8.2.1.1, (a8.2.1.2.1, (Go.SL.w64 (a8.2.1.2.2.1 + 1), ()))), ())))) (([], ()), (v3.2.1, ())))
 (fun j9 => kbr (decide ((Nat.cast (List.length x1.1) : Int) > 0))
 (kbnd (K168 ((x0.1.1, (x0.1.2.1, (x0.1.2.2.1, ()))), ()) (x1.1, ())) fun a10 => j9 ((), (a10.2.1, ())))
 (j9 ((), ((x0.1.1, (x0.1.2.1, (x0.1.2.2.1, ()))), ())))))))
 (fun j11 => kbr (decide (x0.2.1 < 0))
 (j11 (((decide (x0.2.1 < 0)), ()), ()))
 (j11 (((decide (x0.2.1 > 256)), ()), ())))
theorem kF172 (x0) (x1) : F172 x0 x1 = K172 x0 x1 := by
  unfold F172 K172
  (try simp only [bth_self]) <;> simp only [gdE_rfl, gdE_Tk, bnd_k, gd_k, br_k, jn_k, iter_k, bth_k, nlq_k, ob_k, kF168, kF201, kF214]
noncomputable def K52 (x0 : (((List (BitVec 8)) × (List (BitVec 8)) × (Int) × Unit) × ((List ((Bool) × (List ((List (BitVec 8)) × (Int) × (Bool) × Unit)) × Unit)) × Unit) × ((List ((Int) × (Int) × (Int) × ((Int) × (Int) × (Int) × (List (BitVec 8)) × Unit) × Unit)) × (Int) × Unit) × Unit) × Unit) (x1 : ((Int) × (Int) × (Int) × (Int) × (Int) × (List (BitVec 8)) × (List (BitVec 8)) × Unit) × Unit) : Option ((((Int) × (Int) × (Int) × (List (BitVec 8)) × Unit) × (Int) × Unit) × (((List (BitVec 8)) × (List (BitVec 8)) × (Int) × Unit) × ((List ((Bool) × (List ((List (BitVec 8)) × (Int) × (Bool) × Unit)) × Unit)) × Unit) × ((List ((Int) × (Int) × (Int) × ((Int) × (Int) × (Int) × (List (BitVec 8)) × Unit) × Unit)) × (Int) × Unit) × Unit) × Unit) :=
 kbr (x1.1.1 == 3)
 (kbnd (K172 (x0.1.1, (32, ())) ([], ())) fun a2 => kbr (a2.1.2.1 != 0)
 (some (((0, (0, (0, ([], ())))), (a2.1.2.1, ())), ((a2.2.1, (x0.1.2.1, (x0.1.2.2.1, ()))), ())))
 (kgd (32 ≤ (List.length a2.1.1)) <| kbnd (K123 (x0.1.2.1, (List.take 32 a2.1.1, ())) ()) fun a3 => some (((0, (a3.1.1, (1, ([], ())))), (a3.1.2.1, ())), ((a2.2.1, (a3.2.1, (x0.1.2.2.1, ()))), ()))))
 (kbr (x1.1.1 == 4)
 (kbnd (K172 (x0.1.1, (32, ())) ([], ())) fun a4 => kbr (a4.1.2.1 != 0)
 (some (((0, (0, (0, ([], ())))), (a4.1.2.1, ())), ((a4.2.1, (x0.1.2.1, (x0.1.2.2.1, ()))), ())))
 (kgd (32 ≤ (List.length a4.1.1)) <| kbnd (K125 (x0.1.2.1, (x1.1.2.2.2.1, (List.take 32 a4.1.1, ()))) ()) fun a5 => some (((0, (x1.1.2.2.2.1, (a5.1.1, ([], ())))), (a5.1.2.1, ())), ((a4.2.1, (a5.2.1, (x0.1.2.2.1, ()))), ()))))
 (kbr (x1.1.1 == 5)
 (kbnd (K126 (x0.1.2.1, (x1.1.2.2.2.1, ((x1.1.2.2.2.2.1 == 1), ()))) ()) fun a6 => some (((0, (0, (0, ([], ())))), (a6.1.1, ())), ((x0.1.1, (a6.2.1, (x0.1.2.2.1, ()))), ())))
 (kbr (x1.1.1 == 6)
 (kbnd (K127 (x0.1.2.1, (x1.1.2.2.2.1, (x1.1.2.2.2.2.1, ()))) ()) fun a7 => some (((0, (0, (0, ([], ())))), (a7.1.1, ())), ((x0.1.1, (a7.2.1, (x0.1.2.2.1, ()))), ())))
 (kbr (x1.1.1 == 7)
 (kbnd (K128 (x0.1.2.1, (x1.1.2.2.2.1, ())) (x1.1.2.2.2.2.2.1, (x1.1.2.2.2.2.2.2.1, ()))) fun a8 => some (((0, (x1.1.2.2.2.1, (a8.1.2.1, (a8.1.1, ())))), (a8.1.2.2.1, ())), ((x0.1.1, (a8.2.1, (x0.1.2.2.1, ()))), ())))
 (kbr (x1.1.1 == 8)
 (kbnd (K129 (x0.1.2.1, ()) (x1.1.2.2.2.2.2.1, (x1.1.2.2.2.2.2.2.1, ()))) fun a9 => some (((0, (0, (0, (a9.1.1, ())))), (a9.1.2.1, ())), ((x0.1.1, (a9.2.1, (x0.1.2.2.1, ()))), ())))
 (kbr (x1.1.1 == 9)
 (kbnd (K130 (x0.1.2.1, ()) (x1.1.2.2.2.2.2.1, (x1.1.2.2.2.2.2.2.1, ()))) fun a10 => some (((0, (0, (a10.1.2.1, (a10.1.1, ())))), (a10.1.2.2.1, ())), ((x0.1.1, (a10.2.1, (x0.1.2.2.1, ()))), ())))
 (kbr (x1.1.1 == 10)
 (kbnd (K106 (x0.1.1, ()) (x1.1.2.2.2.2.2.1, ())) fun a11 => some (((0, (0, (0, ([], ())))), (0, ())), ((a11.2.1, (x0.1.2.1, (x0.1.2.2.1, ()))), ())))
 (some (((0, (0, (0, ([], ())))), (0, ())), (x0.1, ()))))))))))
theorem kF52 (x0) (x1) : F52 x0 x1 = K52 x0 x1 := by
  unfold F52 K52
  (try simp only [bth_self]) <;> simp only [gdE_rfl, gdE_Tk, bnd_k, gd_k, br_k, jn_k, iter_k, bth_k, nlq_k, ob_k, kF106, kF123, kF125, kF126, kF127, kF128, kF129, kF130, kF172]
noncomputable def K53 (x0 : ((List ((Int) × (Int) × (Int) × ((Int) × (Int) × (Int) × (List (BitVec 8)) × Unit) × Unit)) × (Int) × Unit) × (Int) × (Int) × ((Int) × (Int) × (Int) × (List (BitVec 8)) × Unit) × Unit) (x1 : Unit) : Option (((Int) × Unit) × ((List ((Int) × (Int) × (Int) × ((Int) × (Int) × (Int) × (List (BitVec 8)) × Unit) × Unit)) × (Int) × Unit) × Unit) :=
 kob (mget x0.1.1 x0.2.1) (kbr true
 (some ((150, ()), ((x0.1.1, (x0.1.2.1, ())), ())))
 (kbr (decide (x0.2.2.1 ≤ 0))
 (some ((151, ()), ((x0.1.1, (x0.1.2.1, ())), ())))
 (kbnd (K120 () (x0.2.2.2.1, ())) fun a2 => some ((0, ()), ((mput x0.1.1 x0.2.1 (x0.2.1, (x0.2.2.1, (a2.1.1, ()))), (x0.1.2.1, ())), ()))))) fun a3 => kbr false
 (some ((150, ()), ((x0.1.1, (x0.1.2.1, ())), ())))
 (kbr (decide (x0.2.2.1 ≤ a3.2.1))
 (some ((151, ()), ((x0.1.1, (x0.1.2.1, ())), ())))
 (kbnd (K120 () (x0.2.2.2.1, ())) fun a4 => some ((0, ()), ((mput x0.1.1 x0.2.1 (x0.2.1, (x0.2.2.1, (a4.1.1, ()))), (x0.1.2.1, ())), ()))))
theorem kF53 (x0) (x1) : F53 x0 x1 = K53 x0 x1 := by
  unfold F53 K53
  (try simp only [bth_self]) <;> simp only [gdE_rfl, gdE_Tk, bnd_k, gd_k, br_k, jn_k, iter_k, bth_k, nlq_k, ob_k, kF120]
noncomputable def K18 (x0 : (((List (BitVec 8)) × (List (BitVec 8)) × (Int) × Unit) × ((List ((Bool) × (List ((List (BitVec 8)) × (Int) × (Bool) × Unit)) × Unit)) × Unit) × ((List ((Int) × (Int) × (Int) × ((Int) × (Int) × (Int) × (List (BitVec 8)) × Unit) × Unit)) × (Int) × Unit) × Unit) × Unit) (x1 : ((Int) × (Int) × (Int) × (Int) × (Int) × (List (BitVec 8)) × (List (BitVec 8)) × Unit) × Unit) : Option ((((Int) × (Int) × (Int) × (List (BitVec 8)) × Unit) × Unit) × (((List (BitVec 8)) × (List (BitVec 8)) × (Int) × Unit) × ((List ((Bool) × (List ((List (BitVec 8)) × (Int) × (Bool) × Unit)) × Unit)) × Unit) × ((List ((Int) × (Int) × (Int) × ((Int) × (Int) × (Int) × (List (BitVec 8)) × Unit) × Unit)) × (Int) × Unit) × Unit) × Unit) :=
 kbnd (K47 () ((x1.1.1, (x1.1.2.1, (x1.1.2.2.1, (x1.1.2.2.2.1, (x1.1.2.2.2.2.1, (x1.1.2.2.2.2.2.1, (x1.1.2.2.2.2.2.2.1, ()))))))), ())) fun a2 => kbr (a2.1.1 != 0)
 (kbnd (K48 ((0, (0, (0, ([], ())))), (a2.1.1, ())) ()) fun a3 => some ((a3.1.1, ()), (x0.1, ())))
 (kbr (x1.1.1 == 1)
 (kbnd (K49 (x0.1.2.2.1, ()) ()) fun a4 => kbnd (K48 ((0, (a4.1.1, (0, ([], ())))), (a4.1.2.1, ())) ()) fun a5 => some ((a5.1.1, ()), ((x0.1.1, (x0.1.2.1, (a4.2.1, ()))), ())))
 (kbr (x1.1.1 == 2)
 (kbnd (K50 (x0.1.2.2.1, (x1.1.2.2.2.1, ())) ()) fun a6 => kbnd (K48 ((0, (0, (0, ([], ())))), (a6.1.1, ())) ()) fun a7 => some ((a7.1.1, ()), ((x0.1.1, (x0.1.2.1, (a6.2.1, ()))), ())))
 ((kbnd (K51 (x0.1.2.2.1, (x1.1.2.1, (x1.1.2.2.1, ()))) ()) fun a8 => kbr (a8.1.2.2.1 != 0)
 (kbnd (K48 (a8.1.1, (a8.1.2.2.1, ())) ()) fun a9 => some ((a9.1.1, ()), ((x0.1.1, (x0.1.2.1, (a8.2.1, ()))), ())))
 (kbr (cond false true a8.1.2.1)
 (kbnd (K48 (a8.1.1, (a8.1.2.2.1, ())) ()) fun a10 => some ((a10.1.1, ()), ((x0.1.1, (x0.1.2.1, (a8.2.1, ()))), ())))
 (kbnd (K52 ((x0.1.1, (x0.1.2.1, (a8.2.1, ()))), ()) ((x1.1.1, (x1.1.2.1, (x1.1.2.2.1, (x1.1.2.2.2.1, (x1.1.2.2.2.2.1, (x1.1.2.2.2.2.2.1, (x1.1.2.2.2.2.2.2.1, ()))))))), ())) fun a11 => kbnd (K48 (a11.1.1, (a11.1.2.1, ())) ()) fun a12 => kbnd (K53 (a11.2.1.2.2.1, (x1.1.2.1, (x1.1.2.2.1, (a12.1.1, ())))) ()) fun a13 => some ((a12.1.1, ()), ((a11.2.1.1, (a11.2.1.2.1, (a13.2.1, ()))), ()))))))))
theorem kF18 (x0) (x1) : F18 x0 x1 = K18 x0 x1 := by
  unfold F18 K18
  (try simp only [bth_self]) <;> simp only [gdE_rfl, gdE_Tk, bnd_k, gd_k, br_k, jn_k, iter_k, bth_k, nlq_k, ob_k, kF47, kF48, kF49, kF50, kF51, kF52, kF53]
end Go.GX
