/- Functions that were walked through by a program: what each comes to, as a plain function, and the proof. -/
import Derived.Test.YtjpjejldinpcnaaX3
namespace Go.Proofs.Ytjpjejldinpcnaa
open Go.RowKit Go.SL
attribute [local irreducible] Go.SL.RW Go.SL.CW Go.SL.RD Go.SL.Hd Go.SL.St
set_option linter.unusedVariables false
set_option linter.unusedSimpArgs false
set_option maxRecDepth 20000
set_option maxHeartbeats 4000000

theorem nm57 : (Try.f57.name == "runtime.NumGoroutine") = false := by kernel_rfl
theorem nm58 : (Try.f58.name == "runtime.NumGoroutine") = false := by kernel_rfl
theorem nm83 : (Try.f83.name == "runtime.NumGoroutine") = false := by kernel_rfl
theorem zs24 : (Try.prog.info? 24).bind (·.zero) = some (.agg (((List.replicate 12 0#8).map bu8)).toArray) := by kernel_rfl

def RNeeds_l1   : Nat → Int → Int → Option (Int)
  | 0, _, _ => none
  | k6 + 1, s3, s4 =>
    bif decide (s3 > 0) then
      RNeeds_l1 k6 (s3 / 256) (w64 (s4 + 1))
    else
      some (s4)
theorem RNeeds_l1_pos   {fu_ : Nat} {s3 : Int} {s4 : Int} {r : Int} (h : RNeeds_l1 fu_ s3 s4 = some r) : ∃ j, fu_ = j + 1 := by
  cases fu_ with
  | zero => cases (show (none : Option (Int)) = some r from h)
  | succ j => exact ⟨j, rfl⟩
def RNeeds (n : Int) : Option (Int) :=
  RNeeds_l1 1099511627776 n 0
def RPut_l1 (n : Int)  : Nat → List (BitVec 8) → Int → Option (List (BitVec 8) × Int)
  | 0, _, _ => none
  | k19 + 1, s14, s17 =>
    bif decide (s17 ≥ 0) then
      if 0 ≤ w64 (8 * s17) then
        lt_ (BitVec.ofInt 8 (ishr64 n ((w64 (8 * s17)).toNat))) fun u22 =>
        if s14.length + 1 ≤ 1000000 then
          lt_ (s14 ++ ([u22] : List (BitVec 8))) fun s25 =>
          RPut_l1 n k19 s25 (w64 (s17 - 1))
        else none
      else none
    else
      some (s14, 0)
theorem RPut_l1_pos {n : Int}  {fu_ : Nat} {s14 : List (BitVec 8)} {s17 : Int} {r : List (BitVec 8) × Int} (h : RPut_l1 n fu_ s14 s17 = some r) : ∃ j, fu_ = j + 1 := by
  cases fu_ with
  | zero => cases (show (none : Option (List (BitVec 8) × Int)) = some r from h)
  | succ j => exact ⟨j, rfl⟩
def RPut (b : List (BitVec 8)) (n : Int) : Option (List (BitVec 8) × Int) :=
  bif decide (n < 0) then
    some (([] : List (BitVec 8)), 1)
  else
    (RNeeds n).bind fun r2 =>
    if 0 + b.length ≤ 1000000 then
      lt_ (([] : List (BitVec 8)) ++ b) fun s6 =>
      if s6.length + 1 ≤ 1000000 then
        lt_ (s6 ++ ([BitVec.ofInt 8 r2] : List (BitVec 8))) fun s11 =>
        RPut_l1 n 1099511627776 s11 (w64 (r2 - 1))
      else none
    else none
def RTake_l2 (b : List (BitVec 8))  : Nat → Int → Nat → Option (Int × List (BitVec 8) × Int)
  | 0, _, _ => none
  | k21 + 1, s18, i19 =>
    bif decide (((i19 : Nat) : Int) ≤ (((b.getD 0 0#8).toNat : Nat) : Int)) then
      if i19 < b.length then
        lt_ (ior64 (ishl64 s18 8) (((b.getD i19 0#8).toNat : Nat) : Int)) fun z24 =>
        RTake_l2 b k21 z24 (i19 + 1)
      else none
    else
      if ((((b.getD 0 0#8).toNat : Nat) : Int) + 1).toNat ≤ b.length then
        lt_ (sl (((((b.getD 0 0#8).toNat : Nat) : Int) + 1).toNat) (b.length - (((((b.getD 0 0#8).toNat : Nat) : Int) + 1).toNat)) b) fun t28 =>
        if 0 + t28.length ≤ 1000000 then
          lt_ (([] : List (BitVec 8)) ++ t28) fun s32 =>
          some (s18, s32, 0)
        else none
      else none
theorem RTake_l2_pos {b : List (BitVec 8)}  {fu_ : Nat} {s18 : Int} {i19 : Nat} {r : Int × List (BitVec 8) × Int} (h : RTake_l2 b fu_ s18 i19 = some r) : ∃ j, fu_ = j + 1 := by
  cases fu_ with
  | zero => cases (show (none : Option (Int × List (BitVec 8) × Int)) = some r from h)
  | succ j => exact ⟨j, rfl⟩
def RTake_j1 (b : List (BitVec 8))  (j7 : Bool) : Option (Int × List (BitVec 8) × Int) :=
  bif j7 then
    some (0, ([] : List (BitVec 8)), 80)
  else
    RTake_l2 b 1099511627776 0 1
def RTake (b : List (BitVec 8)) : Option (Int × List (BitVec 8) × Int) :=
  bif ((b.length : Nat) : Int) == 0 then
    some (0, ([] : List (BitVec 8)), 3)
  else
    if 0 < b.length then
      bif decide ((((b.getD 0 0#8).toNat : Nat) : Int) > 8) then
        some (0, ([] : List (BitVec 8)), 80)
      else
        bif decide (((b.length : Nat) : Int) ≤ (((b.getD 0 0#8).toNat : Nat) : Int)) then
          some (0, ([] : List (BitVec 8)), 3)
        else
          bif decide ((((b.getD 0 0#8).toNat : Nat) : Int) > 0) then
            if 1 < b.length then
              bif (b.getD 1 0#8) == (0#8) then
                RTake_j1 b true
              else
                bif (((b.getD 0 0#8).toNat : Nat) : Int) == 8 then
                  if 1 < b.length then
                    RTake_j1 b (decide ((b.getD 1 0#8).toNat > (127#8).toNat))
                  else none
                else
                  RTake_j1 b false
            else none
          else
            bif (((b.getD 0 0#8).toNat : Nat) : Int) == 8 then
              if 1 < b.length then
                RTake_j1 b (decide ((b.getD 1 0#8).toNat > (127#8).toNat))
              else none
            else
              RTake_j1 b false
    else none
def RBlob (id : Int) (version : Int) (n : List (BitVec 8)) (sealed : List (BitVec 8)) : Option (List (BitVec 8)) :=
  (RPut ([] : List (BitVec 8)) id).bind fun r2 =>
  (RPut r2.1 version).bind fun r4 =>
  if r4.1.length + 12 ≤ 1000000 then
    lt_ (r4.1 ++ n) fun s7 =>
    if s7.length + sealed.length ≤ 1000000 then
      lt_ (s7 ++ sealed) fun s11 =>
      some (s11)
    else none
  else none
def RRead_l2 (r3 : Int × List (BitVec 8) × Int) (r5 : Int × List (BitVec 8) × Int)  : Nat → Nat → List (BitVec 8) → Option (Int × Int × List (BitVec 8) × List (BitVec 8) × Int)
  | 0, _, _ => none
  | k19 + 1, i16, m17 =>
    bif decide (((i16 : Nat) : Int) < 12) then
      if i16 < r5.2.1.length then
        lt_ (m17.set i16 (r5.2.1.getD i16 0#8)) fun m24 =>
        RRead_l2 r3 r5 k19 (i16 + 1) m24
      else none
    else
      if 12 ≤ r5.2.1.length then
        lt_ (sl 12 (r5.2.1.length - 12) r5.2.1) fun t27 =>
        if 0 < r5.2.1.length then
          if 12 < r5.2.1.length then
            if 0 + t27.length ≤ 1000000 then
              lt_ (([] : List (BitVec 8)) ++ t27) fun s36 =>
              some (r3.1, r5.1, m17, s36, 0)
            else none
          else none
        else none
      else none
theorem RRead_l2_pos {r3 : Int × List (BitVec 8) × Int} {r5 : Int × List (BitVec 8) × Int}  {fu_ : Nat} {i16 : Nat} {m17 : List (BitVec 8)} {r : Int × Int × List (BitVec 8) × List (BitVec 8) × Int} (h : RRead_l2 r3 r5 fu_ i16 m17 = some r) : ∃ j, fu_ = j + 1 := by
  cases fu_ with
  | zero => cases (show (none : Option (Int × Int × List (BitVec 8) × List (BitVec 8) × Int)) = some r from h)
  | succ j => exact ⟨j, rfl⟩
def RRead_j1 (r3 : Int × List (BitVec 8) × Int) (r5 : Int × List (BitVec 8) × Int)  (j7 : Bool) : Option (Int × Int × List (BitVec 8) × List (BitVec 8) × Int) :=
  bif j7 then
    some (0, 0, (List.replicate 12 0#8), ([] : List (BitVec 8)), 140)
  else
    RRead_l2 r3 r5 1099511627776 0 (List.replicate 12 0#8)
def RRead (t : List (BitVec 8)) : Option (Int × Int × List (BitVec 8) × List (BitVec 8) × Int) :=
  (RTake t).bind fun r3 =>
  (RTake r3.2.1).bind fun r5 =>
  bif r3.2.2 != 0 then
    RRead_j1 r3 r5 true
  else
    bif r5.2.2 != 0 then
      RRead_j1 r3 r5 true
    else
      bif decide (r3.1 < 1) then
        RRead_j1 r3 r5 true
      else
        bif decide (r5.1 < 1) then
          RRead_j1 r3 r5 true
        else
          bif decide (((r5.2.1.length : Nat) : Int) < 28) then
            RRead_j1 r3 r5 true
          else
            RRead_j1 r3 r5 (decide (((r5.2.1.length : Nat) : Int) > 92))
end Go.Proofs.Ytjpjejldinpcnaa
