/- Functions that were walked through by a program: what each comes to, as a plain function, and the proof. -/
import Derived.Test.YtjpjejldinpcnaaX1
namespace Go.Proofs.Ytjpjejldinpcnaa
open Go.RowKit Go.SL
attribute [local irreducible] Go.SL.RW Go.SL.CW Go.SL.RD Go.SL.Hd Go.SL.St
set_option linter.unusedVariables false
set_option linter.unusedSimpArgs false
set_option maxRecDepth 20000
set_option maxHeartbeats 4000000

theorem nm89 : (Try.f89.name == "runtime.NumGoroutine") = false := by kernel_rfl
theorem nm102 : (Try.f102.name == "runtime.NumGoroutine") = false := by kernel_rfl
theorem nm103 : (Try.f103.name == "runtime.NumGoroutine") = false := by kernel_rfl
theorem nm105 : (Try.f105.name == "runtime.NumGoroutine") = false := by kernel_rfl
theorem nm106 : (Try.f106.name == "runtime.NumGoroutine") = false := by kernel_rfl
theorem sz140 : (Try.prog.info? 140).map (·.size) = some 240 := by kernel_rfl
theorem sz157 : (Try.prog.info? 157).map (·.size) = some 240 := by kernel_rfl
theorem zs140 : (Try.prog.info? 140).bind (·.zero) = some (.agg (((List.replicate 240 0#8).map bu8)).toArray) := by kernel_rfl
theorem zs157 : (Try.prog.info? 157).bind (·.zero) = some (.agg (((List.replicate 240 0#8).map bu8)).toArray) := by kernel_rfl
def str2 : List (BitVec 8) := [0#8, 1#8, 2#8, 2#8, 3#8, 3#8, 3#8, 3#8, 4#8, 4#8, 4#8, 4#8, 4#8, 4#8, 4#8, 4#8, 5#8, 5#8, 5#8, 5#8, 5#8, 5#8, 5#8, 5#8, 5#8, 5#8, 5#8, 5#8, 5#8, 5#8, 5#8, 5#8, 6#8, 6#8, 6#8, 6#8, 6#8, 6#8, 6#8, 6#8, 6#8, 6#8, 6#8, 6#8, 6#8, 6#8, 6#8, 6#8, 6#8, 6#8, 6#8, 6#8, 6#8, 6#8, 6#8, 6#8, 6#8, 6#8, 6#8, 6#8, 6#8, 6#8, 6#8, 6#8, 7#8, 7#8, 7#8, 7#8, 7#8, 7#8, 7#8, 7#8, 7#8, 7#8, 7#8, 7#8, 7#8, 7#8, 7#8, 7#8, 7#8, 7#8, 7#8, 7#8, 7#8, 7#8, 7#8, 7#8, 7#8, 7#8, 7#8, 7#8, 7#8, 7#8, 7#8, 7#8, 7#8, 7#8, 7#8, 7#8, 7#8, 7#8, 7#8, 7#8, 7#8, 7#8, 7#8, 7#8, 7#8, 7#8, 7#8, 7#8, 7#8, 7#8, 7#8, 7#8, 7#8, 7#8, 7#8, 7#8, 7#8, 7#8, 7#8, 7#8, 7#8, 7#8, 7#8, 7#8, 8#8, 8#8, 8#8, 8#8, 8#8, 8#8, 8#8, 8#8, 8#8, 8#8, 8#8, 8#8, 8#8, 8#8, 8#8, 8#8, 8#8, 8#8, 8#8, 8#8, 8#8, 8#8, 8#8, 8#8, 8#8, 8#8, 8#8, 8#8, 8#8, 8#8, 8#8, 8#8, 8#8, 8#8, 8#8, 8#8, 8#8, 8#8, 8#8, 8#8, 8#8, 8#8, 8#8, 8#8, 8#8, 8#8, 8#8, 8#8, 8#8, 8#8, 8#8, 8#8, 8#8, 8#8, 8#8, 8#8, 8#8, 8#8, 8#8, 8#8, 8#8, 8#8, 8#8, 8#8, 8#8, 8#8, 8#8, 8#8, 8#8, 8#8, 8#8, 8#8, 8#8, 8#8, 8#8, 8#8, 8#8, 8#8, 8#8, 8#8, 8#8, 8#8, 8#8, 8#8, 8#8, 8#8, 8#8, 8#8, 8#8, 8#8, 8#8, 8#8, 8#8, 8#8, 8#8, 8#8, 8#8, 8#8, 8#8, 8#8, 8#8, 8#8, 8#8, 8#8, 8#8, 8#8, 8#8, 8#8, 8#8, 8#8, 8#8, 8#8, 8#8, 8#8, 8#8, 8#8, 8#8, 8#8, 8#8, 8#8, 8#8, 8#8, 8#8, 8#8, 8#8, 8#8, 8#8, 8#8]
theorem str2_len : str2.length = 256 := by kernel_rfl
theorem str2_eq : ((⟨#[0, 1, 2, 2, 3, 3, 3, 3, 4, 4, 4, 4, 4, 4, 4, 4, 5, 5, 5, 5, 5, 5, 5, 5, 5, 5, 5, 5, 5, 5, 5, 5, 6, 6, 6, 6, 6, 6, 6, 6, 6, 6, 6, 6, 6, 6, 6, 6, 6, 6, 6, 6, 6, 6, 6, 6, 6, 6, 6, 6, 6, 6, 6, 6, 7, 7, 7, 7, 7, 7, 7, 7, 7, 7, 7, 7, 7, 7, 7, 7, 7, 7, 7, 7, 7, 7, 7, 7, 7, 7, 7, 7, 7, 7, 7, 7, 7, 7, 7, 7, 7, 7, 7, 7, 7, 7, 7, 7, 7, 7, 7, 7, 7, 7, 7, 7, 7, 7, 7, 7, 7, 7, 7, 7, 7, 7, 7, 7, 8, 8, 8, 8, 8, 8, 8, 8, 8, 8, 8, 8, 8, 8, 8, 8, 8, 8, 8, 8, 8, 8, 8, 8, 8, 8, 8, 8, 8, 8, 8, 8, 8, 8, 8, 8, 8, 8, 8, 8, 8, 8, 8, 8, 8, 8, 8, 8, 8, 8, 8, 8, 8, 8, 8, 8, 8, 8, 8, 8, 8, 8, 8, 8, 8, 8, 8, 8, 8, 8, 8, 8, 8, 8, 8, 8, 8, 8, 8, 8, 8, 8, 8, 8, 8, 8, 8, 8, 8, 8, 8, 8, 8, 8, 8, 8, 8, 8, 8, 8, 8, 8, 8, 8, 8, 8, 8, 8, 8, 8, 8, 8, 8, 8, 8, 8, 8, 8, 8, 8, 8, 8, 8, 8, 8, 8, 8, 8]⟩ : ByteArray).data.toList.map UInt8.toBitVec) = str2 := by kernel_rfl

def Expand_j2 (t : List (BitVec 8)) (i7 : Nat) (rc_Expand_l1 : BitVec 8 → Nat → List (BitVec 8) → Option (List (BitVec 8))) (j12 : List (BitVec 8)) (j13 : BitVec 8) (j14 : Bool) : Option (List (BitVec 8)) :=
  rc_Expand_l1 j13 (i7 + 1) j12
def Expand_l4 (t : List (BitVec 8)) (i7 : Nat) (m8 : List (BitVec 8)) (j23 : BitVec 8) (rc_Expand_l1 : BitVec 8 → Nat → List (BitVec 8) → Option (List (BitVec 8))) : Nat → Nat → List (BitVec 8) → Option (List (BitVec 8))
  | 0, _, _ => none
  | k38 + 1, i35, m36 =>
    bif decide (((i35 : Nat) : Int) < 4) then
      lt_ ((m36.getD i35 0#8) ^^^ (m8.getD (((((i7 : Nat) : Int) - 8).toNat) * 4 + i35) 0#8)) fun u40 =>
      lt_ (m36.set i35 u40) fun m41 =>
      Expand_l4 t i7 m8 j23 rc_Expand_l1 k38 (i35 + 1) m41
    else
      lt_ (ov m8 (i7 * 4) m36) fun m42 =>
      Expand_j2 t i7 rc_Expand_l1 m42 j23 false
theorem Expand_l4_pos {t : List (BitVec 8)} {i7 : Nat} {m8 : List (BitVec 8)} {j23 : BitVec 8} {rc_Expand_l1 : BitVec 8 → Nat → List (BitVec 8) → Option (List (BitVec 8))} {fu_ : Nat} {i35 : Nat} {m36 : List (BitVec 8)} {r : List (BitVec 8)} (h : Expand_l4 t i7 m8 j23 rc_Expand_l1 fu_ i35 m36 = some r) : ∃ j, fu_ = j + 1 := by
  cases fu_ with
  | zero => cases (show (none : Option (List (BitVec 8))) = some r from h)
  | succ j => exact ⟨j, rfl⟩
def Expand_j3 (t : List (BitVec 8)) (i7 : Nat) (m8 : List (BitVec 8)) (rc_Expand_l1 : BitVec 8 → Nat → List (BitVec 8) → Option (List (BitVec 8))) (j22 : List (BitVec 8)) (j23 : BitVec 8) (j24 : Bool) : Option (List (BitVec 8)) :=
  Expand_l4 t i7 m8 j23 rc_Expand_l1 1099511627776 0 j22
def Expand_l5 (m8 : List (BitVec 8))  : Nat → Nat → List (BitVec 8) → Option (List (BitVec 8))
  | 0, _, _ => none
  | k48 + 1, i45, m46 =>
    bif decide (((i45 : Nat) : Int) < 60) then
      lt_ (sl (i45 * 4) 4 m8) fun a50 =>
      if (4 * (((i45 : Nat) : Int) % 4)).toNat < 16 then
        lt_ (ov m46 (((((i45 : Nat) : Int) / 4).toNat) * 16 + (4 * (((i45 : Nat) : Int) % 4)).toNat) (a50.take (16 - ((4 * (((i45 : Nat) : Int) % 4)).toNat)))) fun m53 =>
        Expand_l5 m8 k48 (i45 + 1) m53
      else none
    else
      some (m46)
theorem Expand_l5_pos {m8 : List (BitVec 8)}  {fu_ : Nat} {i45 : Nat} {m46 : List (BitVec 8)} {r : List (BitVec 8)} (h : Expand_l5 m8 fu_ i45 m46 = some r) : ∃ j, fu_ = j + 1 := by
  cases fu_ with
  | zero => cases (show (none : Option (List (BitVec 8))) = some r from h)
  | succ j => exact ⟨j, rfl⟩
def Expand_l1 (t : List (BitVec 8))  : Nat → BitVec 8 → Nat → List (BitVec 8) → Option (List (BitVec 8))
  | 0, _, _, _ => none
  | k10 + 1, s6, i7, m8 =>
    bif decide (((i7 : Nat) : Int) < 60) then
      bif decide (((i7 : Nat) : Int) < 8) then
        if (4 * ((i7 : Nat) : Int)).toNat < 32 ∧ (4 * ((i7 : Nat) : Int)).toNat ≤ (4 * ((i7 : Nat) : Int) + 4).toNat ∧ (4 * ((i7 : Nat) : Int) + 4).toNat ≤ 32 then
          if 4 ≤ (4 * ((i7 : Nat) : Int) + 4).toNat - ((4 * ((i7 : Nat) : Int)).toNat) then
            lt_ (sl ((4 * ((i7 : Nat) : Int)).toNat) 4 t) fun a18 =>
            lt_ (ov m8 (i7 * 4) a18) fun m19 =>
            Expand_j2 t i7 (fun (s6_ : BitVec 8) (i7_ : Nat) (m8_ : List (BitVec 8)) => Expand_l1 t k10 s6_ i7_ m8_) m19 s6 true
          else none
        else none
      else
        lt_ (sl (((((i7 : Nat) : Int) - 1).toNat) * 4) 4 m8) fun a20 =>
        bif (((i7 : Nat) : Int) % 8) == 0 then
          (Boxed ([a20.getD 1 0#8, a20.getD 2 0#8, a20.getD 3 0#8, a20.getD 0 0#8] : List (BitVec 8))).bind fun r26 =>
          lt_ (r26.set 0 ((r26.getD 0 0#8) ^^^ s6)) fun m28 =>
          (Times2 s6).bind fun r29 =>
          Expand_j3 t i7 m8 (fun (s6_ : BitVec 8) (i7_ : Nat) (m8_ : List (BitVec 8)) => Expand_l1 t k10 s6_ i7_ m8_) m28 r29 true
        else
          bif (((i7 : Nat) : Int) % 8) == 4 then
            (Boxed a20).bind fun r32 =>
            Expand_j3 t i7 m8 (fun (s6_ : BitVec 8) (i7_ : Nat) (m8_ : List (BitVec 8)) => Expand_l1 t k10 s6_ i7_ m8_) r32 s6 false
          else
            Expand_j3 t i7 m8 (fun (s6_ : BitVec 8) (i7_ : Nat) (m8_ : List (BitVec 8)) => Expand_l1 t k10 s6_ i7_ m8_) a20 s6 false
    else
      Expand_l5 m8 1099511627776 0 (List.replicate 240 0#8)
theorem Expand_l1_pos {t : List (BitVec 8)}  {fu_ : Nat} {s6 : BitVec 8} {i7 : Nat} {m8 : List (BitVec 8)} {r : List (BitVec 8)} (h : Expand_l1 t fu_ s6 i7 m8 = some r) : ∃ j, fu_ = j + 1 := by
  cases fu_ with
  | zero => cases (show (none : Option (List (BitVec 8))) = some r from h)
  | succ j => exact ⟨j, rfl⟩
def Expand (t : List (BitVec 8)) : Option (List (BitVec 8)) :=
  Expand_l1 t 1099511627776 (1#8) 0 (List.replicate 240 0#8)
theorem Expand_C {p : Pers} {w : World} {R : List Assn}  (t : List (BitVec 8)) (hl_t : t.length = 32) (r : List (BitVec 8)) (hF : Expand t = some r) (hst : St p w (R)) :
    Calls Try.prog 84 #[.agg ((t.map bu8)).toArray] w fun e w => e = .returned (.agg ((r.map bu8)).toArray) ∧ r.length = 240 ∧ St p w (R) := by
  unfold Expand at hF
  refine enter Try.func84 rfl (by simp) (n := 90) rfl fun τ hτ => ?_
  have hs0 : τ 0 = .agg ((t.map bu8)).toArray := hτ 0 (by simp)
  clear hτ
  refine CW.seq ?_
  refine CW.region ?_
  refine RW.hard Wd.a ?_
  refine H.box (v := .agg ((t.map bu8)).toArray) (AF_ev rfl hs0) hst fun b1 w hst => ?_
  refine RW.hard Wd.a ?_
  refine H.alloc zs140 hst fun b2 w hst => ?_
  refine RW.fin (fun τ => τ 0 = .agg ((t.map bu8)).toArray ∧ τ 1 = .pointer (some ⟨b1, 0, none⟩) ∧ τ 2 = .pointer (some ⟨b2, 0, none⟩)) ⟨up rfl (up rfl hs0), up rfl tp, tp⟩ ?_
  rintro τ ⟨hs0, hs1, hs2⟩
  refine CW.seq ?_
  refine CW.region ?_
  refine RW.hard Wd.a ?_
  refine H.alloc zs157 hst fun b3 w hst => ?_
  refine RW.fin (fun τ => τ 0 = .agg ((t.map bu8)).toArray ∧ τ 1 = .pointer (some ⟨b1, 0, none⟩) ∧ τ 2 = .pointer (some ⟨b2, 0, none⟩) ∧ τ 3 = .pointer (some ⟨b3, 0, none⟩)) ⟨up rfl hs0, up rfl hs1, up rfl hs2, tp⟩ ?_
  rintro τ ⟨hs0, hs1, hs2, hs3⟩
  refine CW.seq ?_
  refine CW.region ?_
  refine RW.soft Wd.a (v := .int .u8 ((1#8).toNat : Int)) (by exact E.assign rfl) ?_
  refine RW.fin (fun τ => τ 0 = .agg ((t.map bu8)).toArray ∧ τ 1 = .pointer (some ⟨b1, 0, none⟩) ∧ τ 2 = .pointer (some ⟨b2, 0, none⟩) ∧ τ 3 = .pointer (some ⟨b3, 0, none⟩) ∧ τ 4 = .int .u8 ((1#8).toNat : Int)) ⟨up rfl hs0, up rfl hs1, up rfl hs2, up rfl hs3, tp⟩ ?_
  rintro τ ⟨hs0, hs1, hs2, hs3, hs4⟩
  refine CW.seq ?_
  refine CW.seq ?_
  refine CW.region ?_
  refine RW.soft Wd.a (v := .int .i64 0) (by exact E.move rfl) ?_
  refine RW.fin (fun τ => τ 0 = .agg ((t.map bu8)).toArray ∧ τ 1 = .pointer (some ⟨b1, 0, none⟩) ∧ τ 2 = .pointer (some ⟨b2, 0, none⟩) ∧ τ 3 = .pointer (some ⟨b3, 0, none⟩) ∧ τ 4 = .int .u8 ((1#8).toNat : Int) ∧ τ 11 = .int .i64 0) ⟨up rfl hs0, up rfl hs1, up rfl hs2, up rfl hs3, up rfl hs4, tp⟩ ?_
  rintro τ ⟨hs0, hs1, hs2, hs3, hs4, hs11⟩
  refine CW.block ?_
  refine CW.loop (fun (k9 : Nat) (τ : Fr) (w : World) => ∃ (s6 : BitVec 8) (i7 : Nat) (m8 : List (BitVec 8)), m8.length = 240 ∧ Expand_l1 t k9 s6 i7 m8 = some r ∧ τ 4 = .int .u8 ((s6).toNat : Int) ∧ τ 11 = .int .i64 ((i7 : Nat) : Int) ∧ τ 1 = .pointer (some ⟨b1, 0, none⟩) ∧ τ 2 = .pointer (some ⟨b2, 0, none⟩) ∧ τ 3 = .pointer (some ⟨b3, 0, none⟩) ∧ St p w (pt b3 (.cells ((m8.map bu8)).toArray 157) :: pt b2 (.cells (((List.replicate 240 0#8).map bu8)).toArray 140) :: pt b1 (.cells ((t.map bu8)).toArray 34) :: R)) 1099511627776 ?_ ?_
  · skip
    have hst := hst.take (.there (.there .here))
    have hst := hst.take (.there (.there .here))
    have hst := hst.take (.there (.there .here))
    exact ⟨(1#8), 0, (List.replicate 240 0#8), (List.length_replicate), hF, hs4, (int_eq (a := 0) hs11 (by omega)), hs1, hs2, hs3, hst⟩
  clear hst hF
  rintro k9 τ w ⟨s6, i7, m8, hl_m8, hF, hs4, hs11, hs1, hs2, hs3, hst⟩
  obtain ⟨k10, rfl⟩ := Expand_l1_pos hF
  rw [Expand_l1] at hF
  refine CW.seq ?_
  refine CW.region ?_
  refine RW.soft Wd.a (v := .bool (decide (((i7 : Nat) : Int) < 60))) (by exact E.lss (k := .i64) (a := ((i7 : Nat) : Int)) (b := 60) (AF_ev rfl hs11) rfl) ?_
  refine RW.fin (fun τ => τ 1 = .pointer (some ⟨b1, 0, none⟩) ∧ τ 2 = .pointer (some ⟨b2, 0, none⟩) ∧ τ 3 = .pointer (some ⟨b3, 0, none⟩) ∧ τ 4 = .int .u8 ((s6).toNat : Int) ∧ τ 11 = .int .i64 ((i7 : Nat) : Int) ∧ τ 12 = .bool (decide (((i7 : Nat) : Int) < 60))) ⟨up rfl hs1, up rfl hs2, up rfl hs3, up rfl hs4, up rfl hs11, tp⟩ ?_
  rintro τ ⟨hs1, hs2, hs3, hs4, hs11, hs12⟩
  refine CW.seq ?_
  refine CW.cond (AF_ev rfl hs12) (fun hc11 => ?_) (fun hc11 => ?_)
  · have hF := ct hc11 hF
    have hc11_ := hc11
    try simp only [decide_eq_true_eq] at hc11_
    refine CW.skip ?_
    refine Th.n ?_
    refine CW.seqJ (fun τ w => ∃ (j12 : List (BitVec 8)) (j13 : BitVec 8) (j14 : Bool), j12.length = 240 ∧ Expand_j2 t i7 (fun (s6_ : BitVec 8) (i7_ : Nat) (m8_ : List (BitVec 8)) => Expand_l1 t k10 s6_ i7_ m8_) j12 j13 j14 = some r ∧ τ 1 = .pointer (some ⟨b1, 0, none⟩) ∧ τ 2 = .pointer (some ⟨b2, 0, none⟩) ∧ τ 3 = .pointer (some ⟨b3, 0, none⟩) ∧ τ 4 = .int .u8 ((j13).toNat : Int) ∧ τ 5 = .int .i64 ((i7 : Nat) : Int) ∧ τ 11 = .int .i64 ((i7 : Nat) : Int) ∧ τ 12 = .bool true ∧ τ 15 = .bool j14 ∧ St p w (pt b3 (.cells ((j12.map bu8)).toArray 157) :: pt b2 (.cells (((List.replicate 240 0#8).map bu8)).toArray 140) :: pt b1 (.cells ((t.map bu8)).toArray 34) :: R)) ?_ ?_
    · skip
      refine CW.block ?_
      refine CW.seq ?_
      refine CW.region ?_
      refine RW.soft Wd.a (v := .int .i64 ((i7 : Nat) : Int)) (by exact E.move (AF_ev rfl hs11)) ?_
      refine RW.soft Wd.a (v := .int .i64 ((i7 : Nat) : Int)) (by exact E.assign (AF_ev rfl tp)) ?_
      refine RW.fin (fun τ => τ 1 = .pointer (some ⟨b1, 0, none⟩) ∧ τ 2 = .pointer (some ⟨b2, 0, none⟩) ∧ τ 3 = .pointer (some ⟨b3, 0, none⟩) ∧ τ 4 = .int .u8 ((s6).toNat : Int) ∧ τ 5 = .int .i64 ((i7 : Nat) : Int) ∧ τ 11 = .int .i64 ((i7 : Nat) : Int) ∧ τ 12 = .bool true) ⟨up rfl (up rfl hs1), up rfl (up rfl hs2), up rfl (up rfl hs3), up rfl (up rfl hs4), tp, up rfl (up rfl hs11), up rfl (up rfl (Eq.trans hs12 (congrArg Value.bool hc11)))⟩ ?_
      rintro τ ⟨hs1, hs2, hs3, hs4, hs5, hs11, hs12⟩
      refine CW.seq ?_
      refine CW.seq ?_
      refine CW.region ?_
      refine RW.soft Wd.a (v := .int .i64 ((i7 : Nat) : Int)) (by exact E.move (AF_ev rfl hs5)) ?_
      refine RW.soft Wd.a (v := .bool (decide (((i7 : Nat) : Int) < 8))) (by exact E.lss (k := .i64) (a := ((i7 : Nat) : Int)) (b := 8) (AF_ev rfl tp) rfl) ?_
      refine RW.fin (fun τ => τ 1 = .pointer (some ⟨b1, 0, none⟩) ∧ τ 2 = .pointer (some ⟨b2, 0, none⟩) ∧ τ 3 = .pointer (some ⟨b3, 0, none⟩) ∧ τ 4 = .int .u8 ((s6).toNat : Int) ∧ τ 5 = .int .i64 ((i7 : Nat) : Int) ∧ τ 11 = .int .i64 ((i7 : Nat) : Int) ∧ τ 12 = .bool true ∧ τ 15 = .bool (decide (((i7 : Nat) : Int) < 8))) ⟨up rfl (up rfl hs1), up rfl (up rfl hs2), up rfl (up rfl hs3), up rfl (up rfl hs4), up rfl (up rfl hs5), up rfl (up rfl hs11), up rfl (up rfl hs12), tp⟩ ?_
      rintro τ ⟨hs1, hs2, hs3, hs4, hs5, hs11, hs12, hs15⟩
      refine CW.cond (AF_ev rfl hs15) (fun hc15 => ?_) (fun hc15 => ?_)
      · have hF := ct hc15 hF
        have hc15_ := hc15
        try simp only [decide_eq_true_eq] at hc15_
        refine CW.seq ?_
        refine CW.region ?_
        refine RW.soft Wd.a (v := .int .i64 ((i7 : Nat) : Int)) (by exact E.move (AF_ev rfl hs5)) ?_
        refine RW.soft Wd.a (v := .int .i64 ((i7 : Nat) : Int)) (by exact E.move (AF_ev rfl (up rfl hs5))) ?_
        refine RW.soft Wd.a (v := .int .i64 (4 * ((i7 : Nat) : Int))) (by exact E.mul (k := .i64) (a := 4) (b := ((i7 : Nat) : Int)) rfl (AF_ev rfl tp) (show IntKind.i64.wrap (4 * ((i7 : Nat) : Int)) = 4 * ((i7 : Nat) : Int) from (by rw [IntWalk.i64_in _ (by omega)]))) ?_
        refine RW.soft Wd.a (v := .int .i64 ((i7 : Nat) : Int)) (by exact E.move (AF_ev rfl (up rfl (up rfl (up rfl hs5))))) ?_
        refine RW.soft Wd.a (v := .int .i64 (4 * ((i7 : Nat) : Int))) (by exact E.mul (k := .i64) (a := 4) (b := ((i7 : Nat) : Int)) rfl (AF_ev rfl tp) (show IntKind.i64.wrap (4 * ((i7 : Nat) : Int)) = 4 * ((i7 : Nat) : Int) from (by rw [IntWalk.i64_in _ (by omega)]))) ?_
        refine RW.soft Wd.a (v := .int .i64 (4 * ((i7 : Nat) : Int) + 4)) (by exact E.add (k := .i64) (a := 4 * ((i7 : Nat) : Int)) (b := 4) (AF_ev rfl tp) rfl (show IntKind.i64.wrap ((4 * ((i7 : Nat) : Int)) + 4) = 4 * ((i7 : Nat) : Int) + 4 from (by rw [IntWalk.i64_in _ (by omega)] <;> omega))) ?_
        obtain ⟨hg16, hF⟩ := pl hF
        refine RW.soft Wd.a (v := .slice (some ⟨b1, (4 * ((i7 : Nat) : Int)).toNat, none⟩) ((4 * ((i7 : Nat) : Int) + 4).toNat - ((4 * ((i7 : Nat) : Int)).toNat)) (32 - ((4 * ((i7 : Nat) : Int)).toNat))) (by exact E.v (run_sliceArr (b := b1) (o := 0) (N := 32) (i := (4 * ((i7 : Nat) : Int)).toNat) (j := (4 * ((i7 : Nat) : Int) + 4).toNat) Try.underlying34 sz5 _ (AF_ev rfl (up rfl (up rfl (up rfl (up rfl (up rfl (up rfl hs1))))))) (int_eq (a := 4 * ((i7 : Nat) : Int)) (AF_ev rfl (up rfl (up rfl (up rfl tp)))) (by omega)) (int_eq (a := 4 * ((i7 : Nat) : Int) + 4) (AF_ev rfl tp) (by omega)) (by omega) (by omega)) (by first | (rw [if_neg (by omega), Nat.mul_one]; done) | (rw [if_neg (by omega), Nat.mul_one, Nat.zero_add]; done) | (rw [if_neg (by omega), Nat.mul_one]; rfl))) ?_
        obtain ⟨hg17, hF⟩ := pl hF
        refine RW.soft Wd.a (v := .pointer (some ⟨b1, (4 * ((i7 : Nat) : Int)).toNat, none⟩)) (by exact E.sliceArr1 (m := (4 * ((i7 : Nat) : Int) + 4).toNat - ((4 * ((i7 : Nat) : Int)).toNat)) (c := 32 - ((4 * ((i7 : Nat) : Int)).toNat)) Try.underlying156 (AF_ev rfl tp) (by omega)) ?_
        obtain ⟨a18, h_a18, hF⟩ := lp hF
        have hl_a18 : a18.length = 4 := by rw [h_a18]; exact sl_len hl_t (by omega)
        refine RW.soft Wd.a (v := .agg ((a18.map bu8)).toArray) (by exact E.loadN (b := b1) (o := (4 * ((i7 : Nat) : Int)).toNat) (cs := (a18.map bu8)) Try.underlying156 rfl sz156 (AF_ev rfl tp) ((List.length_map _).trans hl_a18) (St.cellsOf hst (.there (.there .here)) (by rw [h_a18]; exact subF))) ?_
        refine RW.soft Wd.a (v := .pointer (some ⟨b3, i7 * 4, none⟩)) (by exact E.indexAddrA (b := b3) (o := 0) (i := ((i7 : Nat) : Int)) Try.underlying157 sz156 (AF_ev rfl (up rfl (up rfl (up rfl (up rfl (up rfl (up rfl (up rfl (up rfl (up rfl hs3)))))))))) (AF_ev rfl (up rfl (up rfl (up rfl (up rfl (up rfl (up rfl (up rfl (up rfl tp))))))))) (by omega) (by omega) (by omega)) ?_
        obtain ⟨m19, h_m19, hF⟩ := lp hF
        have hl_m19 : m19.length = 240 := by rw [h_m19]; exact ov_len hl_m8 (by rw [hl_a18]; omega)
        refine RW.hard Wd.a ?_
        refine H.storeL (b := b3) (o := i7 * 4) (m := 4) (v := .agg ((a18.map bu8)).toArray) (ys := (a18.map bu8)) (L' := (m19.map bu8)) (AF_ev rfl tp) (AF_ev rfl (up rfl tp)) hst .here sz156 rfl ((List.length_map _).trans hl_a18) (ones_map (fun _ => rfl)) (by rw [h_m19]; exact putA (by rw [hl_a18, hl_m8]; omega)) fun w hst => ?_
        refine RW.fin (fun τ => τ 1 = .pointer (some ⟨b1, 0, none⟩) ∧ τ 2 = .pointer (some ⟨b2, 0, none⟩) ∧ τ 3 = .pointer (some ⟨b3, 0, none⟩) ∧ τ 4 = .int .u8 ((s6).toNat : Int) ∧ τ 5 = .int .i64 ((i7 : Nat) : Int) ∧ τ 11 = .int .i64 ((i7 : Nat) : Int) ∧ τ 12 = .bool true ∧ τ 15 = .bool true) ⟨u0 (up rfl (up rfl (up rfl (up rfl (up rfl (up rfl (up rfl (up rfl (up rfl (up rfl hs1)))))))))), u0 (up rfl (up rfl (up rfl (up rfl (up rfl (up rfl (up rfl (up rfl (up rfl (up rfl hs2)))))))))), u0 (up rfl (up rfl (up rfl (up rfl (up rfl (up rfl (up rfl (up rfl (up rfl (up rfl hs3)))))))))), u0 (up rfl (up rfl (up rfl (up rfl (up rfl (up rfl (up rfl (up rfl (up rfl (up rfl hs4)))))))))), u0 (up rfl (up rfl (up rfl (up rfl (up rfl (up rfl (up rfl (up rfl (up rfl (up rfl hs5)))))))))), u0 (up rfl (up rfl (up rfl (up rfl (up rfl (up rfl (up rfl (up rfl (up rfl (up rfl hs11)))))))))), u0 (up rfl (up rfl (up rfl (up rfl (up rfl (up rfl (up rfl (up rfl (up rfl (up rfl hs12)))))))))), u0 (up rfl (up rfl (up rfl (up rfl (up rfl (up rfl (up rfl (up rfl (up rfl (up rfl (Eq.trans hs15 (congrArg Value.bool hc15))))))))))))⟩ ?_
        rintro τ ⟨hs1, hs2, hs3, hs4, hs5, hs11, hs12, hs15⟩
        refine CW.exit ?_
        refine Th.x ?_
        refine Bl.x ?_
        refine Th.n ?_
        have hst := hst.take (.there (.there .here))
        have hst := hst.take (.there (.there .here))
        have hst := hst.take (.there (.there .here))
        exact ⟨m19, s6, true, hl_m19, hF, hs1, hs2, hs3, hs4, hs5, hs11, hs12, hs15, hst⟩
      · have hF := cf hc15 hF
        have hc15_ := hc15
        try simp only [decide_eq_false_iff_not, Int.not_lt, Int.not_le, gt_iff_lt, ge_iff_le] at hc15_
        refine CW.skip ?_
        refine Th.n ?_
        refine CW.seq ?_
        refine CW.region ?_
        refine RW.soft Wd.a (v := .int .i64 ((i7 : Nat) : Int)) (by exact E.move (AF_ev rfl hs5)) ?_
        refine RW.soft Wd.a (v := .int .i64 (((i7 : Nat) : Int) - 1)) (by exact E.sub (k := .i64) (a := ((i7 : Nat) : Int)) (b := 1) (AF_ev rfl tp) rfl (show IntKind.i64.wrap (((i7 : Nat) : Int) - 1) = ((i7 : Nat) : Int) - 1 from (by rw [IntWalk.i64_in _ (by omega)]))) ?_
        refine RW.soft Wd.a (v := .pointer (some ⟨b3, ((((i7 : Nat) : Int) - 1).toNat) * 4, none⟩)) (by exact E.indexAddrA (b := b3) (o := 0) (i := ((i7 : Nat) : Int) - 1) Try.underlying157 sz156 (AF_ev rfl (up rfl (up rfl hs3))) (AF_ev rfl tp) (by omega) (by omega) (by omega)) ?_
        obtain ⟨a20, h_a20, hF⟩ := lp hF
        have hl_a20 : a20.length = 4 := by rw [h_a20]; exact sl_len hl_m8 (by omega)
        refine RW.soft Wd.a (v := .agg ((a20.map bu8)).toArray) (by exact E.loadN (b := b3) (o := ((((i7 : Nat) : Int) - 1).toNat) * 4) (cs := (a20.map bu8)) Try.underlying156 rfl sz156 (AF_ev rfl tp) ((List.length_map _).trans hl_a20) (St.cellsOf hst .here (by rw [h_a20]; exact subF))) ?_
        refine RW.hard Wd.a ?_
        refine H.alloc zs156 hst fun b21 w hst => ?_
        refine RW.hard Wd.a ?_
        refine H.storeL (b := b21) (o := 0) (m := 4) (v := .agg ((a20.map bu8)).toArray) (ys := (a20.map bu8)) (L' := (a20.map bu8)) (AF_ev rfl tp) (AF_ev rfl (up rfl tp)) hst .here sz156 rfl ((List.length_map _).trans hl_a20) (ones_map (fun _ => rfl)) (putW (Eq.trans (show (a20.map bu8).length = 4 from ((List.length_map _).trans hl_a20)) (Eq.symm (show ((List.replicate 4 0#8).map bu8).length = 4 from ((List.length_map _).trans (List.length_replicate)))))) fun w hst => ?_
        refine RW.fin (fun τ => τ 1 = .pointer (some ⟨b1, 0, none⟩) ∧ τ 2 = .pointer (some ⟨b2, 0, none⟩) ∧ τ 3 = .pointer (some ⟨b3, 0, none⟩) ∧ τ 4 = .int .u8 ((s6).toNat : Int) ∧ τ 5 = .int .i64 ((i7 : Nat) : Int) ∧ τ 6 = .pointer (some ⟨b21, 0, none⟩) ∧ τ 11 = .int .i64 ((i7 : Nat) : Int) ∧ τ 12 = .bool true ∧ τ 15 = .bool false) ⟨u0 (up rfl (up rfl (up rfl (up rfl (up rfl hs1))))), u0 (up rfl (up rfl (up rfl (up rfl (up rfl hs2))))), u0 (up rfl (up rfl (up rfl (up rfl (up rfl hs3))))), u0 (up rfl (up rfl (up rfl (up rfl (up rfl hs4))))), u0 (up rfl (up rfl (up rfl (up rfl (up rfl hs5))))), u0 tp, u0 (up rfl (up rfl (up rfl (up rfl (up rfl hs11))))), u0 (up rfl (up rfl (up rfl (up rfl (up rfl hs12))))), u0 (up rfl (up rfl (up rfl (up rfl (up rfl (Eq.trans hs15 (congrArg Value.bool hc15)))))))⟩ ?_
        rintro τ ⟨hs1, hs2, hs3, hs4, hs5, hs6, hs11, hs12, hs15⟩
        refine CW.seqJ (fun τ w => ∃ (j22 : List (BitVec 8)) (j23 : BitVec 8) (j24 : Bool), j22.length = 4 ∧ Expand_j3 t i7 m8 (fun (s6_ : BitVec 8) (i7_ : Nat) (m8_ : List (BitVec 8)) => Expand_l1 t k10 s6_ i7_ m8_) j22 j23 j24 = some r ∧ τ 1 = .pointer (some ⟨b1, 0, none⟩) ∧ τ 2 = .pointer (some ⟨b2, 0, none⟩) ∧ τ 3 = .pointer (some ⟨b3, 0, none⟩) ∧ τ 4 = .int .u8 ((j23).toNat : Int) ∧ τ 5 = .int .i64 ((i7 : Nat) : Int) ∧ τ 6 = .pointer (some ⟨b21, 0, none⟩) ∧ τ 11 = .int .i64 ((i7 : Nat) : Int) ∧ τ 12 = .bool true ∧ τ 15 = .bool false ∧ τ 31 = .int .i64 (((i7 : Nat) : Int) % 8) ∧ τ 32 = .bool j24 ∧ St p w (pt b21 (.cells ((j22.map bu8)).toArray 156) :: pt b3 (.cells ((m8.map bu8)).toArray 157) :: pt b2 (.cells (((List.replicate 240 0#8).map bu8)).toArray 140) :: pt b1 (.cells ((t.map bu8)).toArray 34) :: R)) ?_ ?_
        · skip
          refine CW.seq ?_
          refine CW.region ?_
          refine RW.soft Wd.a (v := .int .i64 ((i7 : Nat) : Int)) (by exact E.move (AF_ev rfl hs5)) ?_
          refine RW.soft Wd.a (v := .int .i64 (((i7 : Nat) : Int) % 8)) (by exact E.rem (k := .i64) (a := ((i7 : Nat) : Int)) (b := 8) (AF_ev rfl tp) rfl (by omega) (by exact Int.tmod_eq_emod_of_nonneg (by omega))) ?_
          refine RW.fin (fun τ => τ 1 = .pointer (some ⟨b1, 0, none⟩) ∧ τ 2 = .pointer (some ⟨b2, 0, none⟩) ∧ τ 3 = .pointer (some ⟨b3, 0, none⟩) ∧ τ 4 = .int .u8 ((s6).toNat : Int) ∧ τ 5 = .int .i64 ((i7 : Nat) : Int) ∧ τ 6 = .pointer (some ⟨b21, 0, none⟩) ∧ τ 11 = .int .i64 ((i7 : Nat) : Int) ∧ τ 12 = .bool true ∧ τ 15 = .bool false ∧ τ 31 = .int .i64 (((i7 : Nat) : Int) % 8)) ⟨up rfl (up rfl hs1), up rfl (up rfl hs2), up rfl (up rfl hs3), up rfl (up rfl hs4), up rfl (up rfl hs5), up rfl (up rfl hs6), up rfl (up rfl hs11), up rfl (up rfl hs12), up rfl (up rfl hs15), tp⟩ ?_
          rintro τ ⟨hs1, hs2, hs3, hs4, hs5, hs6, hs11, hs12, hs15, hs31⟩
          refine CW.block ?_
          refine CW.seq ?_
          refine CW.region ?_
          refine RW.soft Wd.a (v := .bool ((((i7 : Nat) : Int) % 8) == 0)) (by exact E.eql (k := .i64) (a := ((i7 : Nat) : Int) % 8) (b := 0) (AF_ev rfl hs31) rfl) ?_
          refine RW.soft Wd.a (v := .bool ((((i7 : Nat) : Int) % 8) == 0)) (by exact E.assign (AF_ev rfl tp)) ?_
          refine RW.fin (fun τ => τ 1 = .pointer (some ⟨b1, 0, none⟩) ∧ τ 2 = .pointer (some ⟨b2, 0, none⟩) ∧ τ 3 = .pointer (some ⟨b3, 0, none⟩) ∧ τ 4 = .int .u8 ((s6).toNat : Int) ∧ τ 5 = .int .i64 ((i7 : Nat) : Int) ∧ τ 6 = .pointer (some ⟨b21, 0, none⟩) ∧ τ 11 = .int .i64 ((i7 : Nat) : Int) ∧ τ 12 = .bool true ∧ τ 15 = .bool false ∧ τ 31 = .int .i64 (((i7 : Nat) : Int) % 8) ∧ τ 32 = .bool ((((i7 : Nat) : Int) % 8) == 0)) ⟨up rfl (up rfl hs1), up rfl (up rfl hs2), up rfl (up rfl hs3), up rfl (up rfl hs4), up rfl (up rfl hs5), up rfl (up rfl hs6), up rfl (up rfl hs11), up rfl (up rfl hs12), up rfl (up rfl hs15), up rfl (up rfl hs31), tp⟩ ?_
          rintro τ ⟨hs1, hs2, hs3, hs4, hs5, hs6, hs11, hs12, hs15, hs31, hs32⟩
          refine CW.cond (AF_ev rfl hs32) (fun hc25 => ?_) (fun hc25 => ?_)
          · have hF := ct hc25 hF
            have hc25_ := hc25
            try simp only [beq_iff_eq] at hc25_
            refine CW.seq ?_
            refine CW.region ?_
            refine RW.soft Wd.a (v := .pointer (some ⟨b21, 1, none⟩)) (by exact E.indexAddrA (b := b21) (o := 0) (i := 1) Try.underlying156 sz5 (AF_ev rfl hs6) rfl (by omega) (by omega) (by omega)) ?_
            refine RW.soft Wd.a (v := .int .u8 ((a20.getD 1 0#8).toNat : Int)) (by exact E.load (a := ⟨b21, 1, none⟩) Try.underlying5 rfl (AF_ev rfl tp) (hst.cellL .here (getF (f := bu8) (d := 0#8) (by rw [hl_a20]; omega)))) ?_
            refine RW.soft Wd.a (v := .pointer (some ⟨b21, 2, none⟩)) (by exact E.indexAddrA (b := b21) (o := 0) (i := 2) Try.underlying156 sz5 (AF_ev rfl (up rfl (up rfl hs6))) rfl (by omega) (by omega) (by omega)) ?_
            refine RW.soft Wd.a (v := .int .u8 ((a20.getD 2 0#8).toNat : Int)) (by exact E.load (a := ⟨b21, 2, none⟩) Try.underlying5 rfl (AF_ev rfl tp) (hst.cellL .here (getF (f := bu8) (d := 0#8) (by rw [hl_a20]; omega)))) ?_
            refine RW.soft Wd.a (v := .pointer (some ⟨b21, 3, none⟩)) (by exact E.indexAddrA (b := b21) (o := 0) (i := 3) Try.underlying156 sz5 (AF_ev rfl (up rfl (up rfl (up rfl (up rfl hs6))))) rfl (by omega) (by omega) (by omega)) ?_
            refine RW.soft Wd.a (v := .int .u8 ((a20.getD 3 0#8).toNat : Int)) (by exact E.load (a := ⟨b21, 3, none⟩) Try.underlying5 rfl (AF_ev rfl tp) (hst.cellL .here (getF (f := bu8) (d := 0#8) (by rw [hl_a20]; omega)))) ?_
            refine RW.soft Wd.a (v := .pointer (some ⟨b21, 0, none⟩)) (by exact E.indexAddrA (b := b21) (o := 0) (i := 0) Try.underlying156 sz5 (AF_ev rfl (up rfl (up rfl (up rfl (up rfl (up rfl (up rfl hs6))))))) rfl (by omega) (by omega) (by omega)) ?_
            refine RW.soft Wd.a (v := .int .u8 ((a20.getD 0 0#8).toNat : Int)) (by exact E.load (a := ⟨b21, 0, none⟩) Try.underlying5 rfl (AF_ev rfl tp) (hst.cellL .here (getF (f := bu8) (d := 0#8) (by rw [hl_a20]; omega)))) ?_
            refine RW.soft Wd.a (v := .agg ((([a20.getD 1 0#8, a20.getD 2 0#8, a20.getD 3 0#8, a20.getD 0 0#8] : List (BitVec 8)).map bu8)).toArray) (by exact E.build (vs := #[(0, .int .u8 ((a20.getD 1 0#8).toNat : Int)), (1, .int .u8 ((a20.getD 2 0#8).toNat : Int)), (2, .int .u8 ((a20.getD 3 0#8).toNat : Int)), (3, .int .u8 ((a20.getD 0 0#8).toNat : Int))]) (bld4 (AF_ev rfl (up rfl (up rfl (up rfl (up rfl (up rfl (up rfl tp))))))) (AF_ev rfl (up rfl (up rfl (up rfl (up rfl tp))))) (AF_ev rfl (up rfl (up rfl tp))) (AF_ev rfl tp)) (by kernel_rfl)) ?_
            obtain ⟨r26, h_r26, hF⟩ := bd hF
            refine RW.hard Wd.a ?_
            refine H.call0 Try.func103 nm103 rfl (map1 (AF_ev rfl tp)) (Calls.mono (Boxed_C ([a20.getD 1 0#8, a20.getD 2 0#8, a20.getD 3 0#8, a20.getD 0 0#8] : List (BitVec 8)) (show ([a20.getD 1 0#8, a20.getD 2 0#8, a20.getD 3 0#8, a20.getD 0 0#8] : List (BitVec 8)).length = 4 from rfl) r26 h_r26 hst) ?_)
            rintro _ w ⟨rfl, hl_q27_0, hst⟩
            refine ⟨_, rfl, ?_⟩
            show RW _ _ _ _ _ _ _
            refine RW.hard Wd.a ?_
            refine H.storeL (b := b21) (o := 0) (m := 4) (v := .agg ((r26.map bu8)).toArray) (ys := (r26.map bu8)) (L' := (r26.map bu8)) (AF_ev rfl (up rfl (up rfl (up rfl (up rfl (up rfl (up rfl (up rfl (up rfl (up rfl (up rfl hs6))))))))))) (AF_ev rfl tp) hst .here sz156 rfl ((List.length_map _).trans hl_q27_0) (ones_map (fun _ => rfl)) (putW (Eq.trans (show (r26.map bu8).length = 4 from ((List.length_map _).trans hl_q27_0)) (Eq.symm (show (a20.map bu8).length = 4 from ((List.length_map _).trans hl_a20))))) fun w hst => ?_
            refine RW.fin (fun τ => τ 1 = .pointer (some ⟨b1, 0, none⟩) ∧ τ 2 = .pointer (some ⟨b2, 0, none⟩) ∧ τ 3 = .pointer (some ⟨b3, 0, none⟩) ∧ τ 4 = .int .u8 ((s6).toNat : Int) ∧ τ 5 = .int .i64 ((i7 : Nat) : Int) ∧ τ 6 = .pointer (some ⟨b21, 0, none⟩) ∧ τ 11 = .int .i64 ((i7 : Nat) : Int) ∧ τ 12 = .bool true ∧ τ 15 = .bool false ∧ τ 31 = .int .i64 (((i7 : Nat) : Int) % 8) ∧ τ 32 = .bool true) ⟨u0 (up rfl (up rfl (up rfl (up rfl (up rfl (up rfl (up rfl (up rfl (up rfl (up rfl hs1)))))))))), u0 (up rfl (up rfl (up rfl (up rfl (up rfl (up rfl (up rfl (up rfl (up rfl (up rfl hs2)))))))))), u0 (up rfl (up rfl (up rfl (up rfl (up rfl (up rfl (up rfl (up rfl (up rfl (up rfl hs3)))))))))), u0 (up rfl (up rfl (up rfl (up rfl (up rfl (up rfl (up rfl (up rfl (up rfl (up rfl hs4)))))))))), u0 (up rfl (up rfl (up rfl (up rfl (up rfl (up rfl (up rfl (up rfl (up rfl (up rfl hs5)))))))))), u0 (up rfl (up rfl (up rfl (up rfl (up rfl (up rfl (up rfl (up rfl (up rfl (up rfl hs6)))))))))), u0 (up rfl (up rfl (up rfl (up rfl (up rfl (up rfl (up rfl (up rfl (up rfl (up rfl hs11)))))))))), u0 (up rfl (up rfl (up rfl (up rfl (up rfl (up rfl (up rfl (up rfl (up rfl (up rfl hs12)))))))))), u0 (up rfl (up rfl (up rfl (up rfl (up rfl (up rfl (up rfl (up rfl (up rfl (up rfl hs15)))))))))), u0 (up rfl (up rfl (up rfl (up rfl (up rfl (up rfl (up rfl (up rfl (up rfl (up rfl hs31)))))))))), u0 (up rfl (up rfl (up rfl (up rfl (up rfl (up rfl (up rfl (up rfl (up rfl (up rfl (Eq.trans hs32 (congrArg Value.bool hc25))))))))))))⟩ ?_
            rintro τ ⟨hs1, hs2, hs3, hs4, hs5, hs6, hs11, hs12, hs15, hs31, hs32⟩
            refine CW.seq ?_
            refine CW.region ?_
            refine RW.soft Wd.a (v := .pointer (some ⟨b21, 0, none⟩)) (by exact E.indexAddrA (b := b21) (o := 0) (i := 0) Try.underlying156 sz5 (AF_ev rfl hs6) rfl (by omega) (by omega) (by omega)) ?_
            refine RW.soft Wd.a (v := .int .u8 ((r26.getD 0 0#8).toNat : Int)) (by exact E.load (a := ⟨b21, 0, none⟩) Try.underlying5 rfl (AF_ev rfl tp) (hst.cellL .here (getF (f := bu8) (d := 0#8) (by rw [hl_q27_0]; omega)))) ?_
            refine RW.soft Wd.a (v := .int .u8 ((s6).toNat : Int)) (by exact E.move (AF_ev rfl (up rfl (up rfl hs4)))) ?_
            refine RW.soft Wd.a (v := .int .u8 (((r26.getD 0 0#8) ^^^ s6).toNat : Int)) (by exact E.uxor (a := r26.getD 0 0#8) (b := s6) UK.u8 (AF_ev rfl (up rfl tp)) (AF_ev rfl tp)) ?_
            refine RW.soft Wd.a (v := .pointer (some ⟨b21, 0, none⟩)) (by exact E.indexAddrA (b := b21) (o := 0) (i := 0) Try.underlying156 sz5 (AF_ev rfl (up rfl (up rfl (up rfl (up rfl hs6))))) rfl (by omega) (by omega) (by omega)) ?_
            obtain ⟨m28, h_m28, hF⟩ := lp hF
            have hl_m28 : m28.length = 4 := by rw [h_m28, List.length_set]; exact hl_q27_0
            refine RW.hard Wd.a ?_
            refine H.storeL (b := b21) (o := 0) (m := 1) (v := .int .u8 (((r26.getD 0 0#8) ^^^ s6).toNat : Int)) (ys := [bu8 ((r26.getD 0 0#8) ^^^ s6)]) (L' := (m28.map bu8)) (AF_ev rfl tp) (AF_ev rfl (up rfl tp)) hst .here sz5 rfl rfl (ones1 rfl) (by rw [h_m28]; exact putF (by rw [hl_q27_0]; omega)) fun w hst => ?_
            refine RW.fin (fun τ => τ 1 = .pointer (some ⟨b1, 0, none⟩) ∧ τ 2 = .pointer (some ⟨b2, 0, none⟩) ∧ τ 3 = .pointer (some ⟨b3, 0, none⟩) ∧ τ 4 = .int .u8 ((s6).toNat : Int) ∧ τ 5 = .int .i64 ((i7 : Nat) : Int) ∧ τ 6 = .pointer (some ⟨b21, 0, none⟩) ∧ τ 11 = .int .i64 ((i7 : Nat) : Int) ∧ τ 12 = .bool true ∧ τ 15 = .bool false ∧ τ 31 = .int .i64 (((i7 : Nat) : Int) % 8) ∧ τ 32 = .bool true) ⟨u0 (up rfl (up rfl (up rfl (up rfl (up rfl hs1))))), u0 (up rfl (up rfl (up rfl (up rfl (up rfl hs2))))), u0 (up rfl (up rfl (up rfl (up rfl (up rfl hs3))))), u0 (up rfl (up rfl (up rfl (up rfl (up rfl hs4))))), u0 (up rfl (up rfl (up rfl (up rfl (up rfl hs5))))), u0 (up rfl (up rfl (up rfl (up rfl (up rfl hs6))))), u0 (up rfl (up rfl (up rfl (up rfl (up rfl hs11))))), u0 (up rfl (up rfl (up rfl (up rfl (up rfl hs12))))), u0 (up rfl (up rfl (up rfl (up rfl (up rfl hs15))))), u0 (up rfl (up rfl (up rfl (up rfl (up rfl hs31))))), u0 (up rfl (up rfl (up rfl (up rfl (up rfl hs32)))))⟩ ?_
            rintro τ ⟨hs1, hs2, hs3, hs4, hs5, hs6, hs11, hs12, hs15, hs31, hs32⟩
            refine CW.region ?_
            refine RW.soft Wd.a (v := .int .u8 ((s6).toNat : Int)) (by exact E.move (AF_ev rfl hs4)) ?_
            obtain ⟨r29, h_r29, hF⟩ := bd hF
            refine RW.hard Wd.a ?_
            refine H.call0 Try.func104 nm104 rfl (map1 (AF_ev rfl tp)) (Calls.mono (Times2_C s6 r29 h_r29 hst) ?_)
            rintro _ w ⟨rfl, hst⟩
            refine ⟨_, rfl, ?_⟩
            show RW _ _ _ _ _ _ _
            refine RW.soft Wd.a (v := .int .u8 ((r29).toNat : Int)) (by exact E.assign (AF_ev rfl tp)) ?_
            refine RW.nil ?_
            refine Bl.n ?_
            refine Th.n ?_
            have hst := hst.take (.there (.there (.there .here)))
            have hst := hst.take (.there (.there (.there .here)))
            have hst := hst.take (.there (.there (.there .here)))
            have hst := hst.take (.there (.there (.there .here)))
            exact ⟨m28, r29, true, hl_m28, hF, up rfl (up rfl (up rfl hs1)), up rfl (up rfl (up rfl hs2)), up rfl (up rfl (up rfl hs3)), tp, up rfl (up rfl (up rfl hs5)), up rfl (up rfl (up rfl hs6)), up rfl (up rfl (up rfl hs11)), up rfl (up rfl (up rfl hs12)), up rfl (up rfl (up rfl hs15)), up rfl (up rfl (up rfl hs31)), up rfl (up rfl (up rfl hs32)), hst⟩
          · have hF := cf hc25 hF
            have hc25_ := hc25
            try simp only [beq_eq_false_iff_ne, ne_eq] at hc25_
            refine CW.seq ?_
            refine CW.region ?_
            refine RW.soft Wd.a (v := .bool ((((i7 : Nat) : Int) % 8) == 4)) (by exact E.eql (k := .i64) (a := ((i7 : Nat) : Int) % 8) (b := 4) (AF_ev rfl hs31) rfl) ?_
            refine RW.soft Wd.a (v := .bool ((((i7 : Nat) : Int) % 8) == 4)) (by exact E.assign (AF_ev rfl tp)) ?_
            refine RW.fin (fun τ => τ 1 = .pointer (some ⟨b1, 0, none⟩) ∧ τ 2 = .pointer (some ⟨b2, 0, none⟩) ∧ τ 3 = .pointer (some ⟨b3, 0, none⟩) ∧ τ 4 = .int .u8 ((s6).toNat : Int) ∧ τ 5 = .int .i64 ((i7 : Nat) : Int) ∧ τ 6 = .pointer (some ⟨b21, 0, none⟩) ∧ τ 11 = .int .i64 ((i7 : Nat) : Int) ∧ τ 12 = .bool true ∧ τ 15 = .bool false ∧ τ 31 = .int .i64 (((i7 : Nat) : Int) % 8) ∧ τ 32 = .bool false ∧ τ 51 = .bool ((((i7 : Nat) : Int) % 8) == 4)) ⟨up rfl (up rfl hs1), up rfl (up rfl hs2), up rfl (up rfl hs3), up rfl (up rfl hs4), up rfl (up rfl hs5), up rfl (up rfl hs6), up rfl (up rfl hs11), up rfl (up rfl hs12), up rfl (up rfl hs15), up rfl (up rfl hs31), up rfl (up rfl (Eq.trans hs32 (congrArg Value.bool hc25))), tp⟩ ?_
            rintro τ ⟨hs1, hs2, hs3, hs4, hs5, hs6, hs11, hs12, hs15, hs31, hs32, hs51⟩
            refine CW.cond (AF_ev rfl hs51) (fun hc31 => ?_) (fun hc31 => ?_)
            · have hF := ct hc31 hF
              have hc31_ := hc31
              try simp only [beq_iff_eq] at hc31_
              refine CW.region ?_
              refine RW.soft Wd.a (v := .agg ((a20.map bu8)).toArray) (by exact E.loadN (b := b21) (o := 0) (cs := (a20.map bu8)) Try.underlying156 rfl sz156 (AF_ev rfl hs6) ((List.length_map _).trans hl_a20) (St.cellsOf hst .here allF)) ?_
              obtain ⟨r32, h_r32, hF⟩ := bd hF
              refine RW.hard Wd.a ?_
              refine H.call0 Try.func103 nm103 rfl (map1 (AF_ev rfl tp)) (Calls.mono (Boxed_C a20 hl_a20 r32 h_r32 hst) ?_)
              rintro _ w ⟨rfl, hl_q33_0, hst⟩
              refine ⟨_, rfl, ?_⟩
              show RW _ _ _ _ _ _ _
              refine RW.hard Wd.a ?_
              refine H.storeL (b := b21) (o := 0) (m := 4) (v := .agg ((r32.map bu8)).toArray) (ys := (r32.map bu8)) (L' := (r32.map bu8)) (AF_ev rfl (up rfl (up rfl hs6))) (AF_ev rfl tp) hst .here sz156 rfl ((List.length_map _).trans hl_q33_0) (ones_map (fun _ => rfl)) (putW (Eq.trans (show (r32.map bu8).length = 4 from ((List.length_map _).trans hl_q33_0)) (Eq.symm (show (a20.map bu8).length = 4 from ((List.length_map _).trans hl_a20))))) fun w hst => ?_
              refine RW.nil ?_
              refine Bl.n ?_
              refine Th.n ?_
              have hst := hst.take (.there (.there (.there .here)))
              have hst := hst.take (.there (.there (.there .here)))
              have hst := hst.take (.there (.there (.there .here)))
              have hst := hst.take (.there (.there (.there .here)))
              exact ⟨r32, s6, false, hl_q33_0, hF, u0 (up rfl (up rfl hs1)), u0 (up rfl (up rfl hs2)), u0 (up rfl (up rfl hs3)), u0 (up rfl (up rfl hs4)), u0 (up rfl (up rfl hs5)), u0 (up rfl (up rfl hs6)), u0 (up rfl (up rfl hs11)), u0 (up rfl (up rfl hs12)), u0 (up rfl (up rfl hs15)), u0 (up rfl (up rfl hs31)), u0 (up rfl (up rfl hs32)), hst⟩
            · have hF := cf hc31 hF
              have hc31_ := hc31
              try simp only [beq_eq_false_iff_ne, ne_eq] at hc31_
              refine CW.skip ?_
              refine Bl.n ?_
              refine Th.n ?_
              have hst := hst.take (.there (.there (.there .here)))
              have hst := hst.take (.there (.there (.there .here)))
              have hst := hst.take (.there (.there (.there .here)))
              have hst := hst.take (.there (.there (.there .here)))
              exact ⟨a20, s6, false, hl_a20, hF, hs1, hs2, hs3, hs4, hs5, hs6, hs11, hs12, hs15, hs31, hs32, hst⟩
        rintro τ w ⟨j22, j23, j24, hl_j22, hF, hs1, hs2, hs3, hs4, hs5, hs6, hs11, hs12, hs15, hs31, hs32, hst⟩
        unfold Expand_j3 at hF
        refine CW.seq ?_
        refine CW.seq ?_
        refine CW.region ?_
        refine RW.soft Wd.a (v := .int .i64 0) (by exact E.move rfl) ?_
        refine RW.fin (fun τ => τ 1 = .pointer (some ⟨b1, 0, none⟩) ∧ τ 2 = .pointer (some ⟨b2, 0, none⟩) ∧ τ 3 = .pointer (some ⟨b3, 0, none⟩) ∧ τ 4 = .int .u8 ((j23).toNat : Int) ∧ τ 5 = .int .i64 ((i7 : Nat) : Int) ∧ τ 6 = .pointer (some ⟨b21, 0, none⟩) ∧ τ 11 = .int .i64 ((i7 : Nat) : Int) ∧ τ 12 = .bool true ∧ τ 15 = .bool false ∧ τ 31 = .int .i64 (((i7 : Nat) : Int) % 8) ∧ τ 32 = .bool j24 ∧ τ 55 = .int .i64 0) ⟨up rfl hs1, up rfl hs2, up rfl hs3, up rfl hs4, up rfl hs5, up rfl hs6, up rfl hs11, up rfl hs12, up rfl hs15, up rfl hs31, up rfl hs32, tp⟩ ?_
        rintro τ ⟨hs1, hs2, hs3, hs4, hs5, hs6, hs11, hs12, hs15, hs31, hs32, hs55⟩
        refine CW.block ?_
        refine CW.loop (fun (k37 : Nat) (τ : Fr) (w : World) => ∃ (i35 : Nat) (m36 : List (BitVec 8)), m36.length = 4 ∧ Expand_l4 t i7 m8 j23 (fun (s6_ : BitVec 8) (i7_ : Nat) (m8_ : List (BitVec 8)) => Expand_l1 t k10 s6_ i7_ m8_) k37 i35 m36 = some r ∧ τ 55 = .int .i64 ((i35 : Nat) : Int) ∧ τ 1 = .pointer (some ⟨b1, 0, none⟩) ∧ τ 2 = .pointer (some ⟨b2, 0, none⟩) ∧ τ 3 = .pointer (some ⟨b3, 0, none⟩) ∧ τ 4 = .int .u8 ((j23).toNat : Int) ∧ τ 5 = .int .i64 ((i7 : Nat) : Int) ∧ τ 6 = .pointer (some ⟨b21, 0, none⟩) ∧ τ 11 = .int .i64 ((i7 : Nat) : Int) ∧ τ 12 = .bool true ∧ τ 15 = .bool false ∧ τ 31 = .int .i64 (((i7 : Nat) : Int) % 8) ∧ τ 32 = .bool j24 ∧ St p w (pt b21 (.cells ((m36.map bu8)).toArray 156) :: pt b3 (.cells ((m8.map bu8)).toArray 157) :: pt b2 (.cells (((List.replicate 240 0#8).map bu8)).toArray 140) :: pt b1 (.cells ((t.map bu8)).toArray 34) :: R)) 1099511627776 ?_ ?_
        · skip
          have hst := hst.take (.there (.there (.there .here)))
          have hst := hst.take (.there (.there (.there .here)))
          have hst := hst.take (.there (.there (.there .here)))
          have hst := hst.take (.there (.there (.there .here)))
          exact ⟨0, j22, hl_j22, hF, (int_eq (a := 0) hs55 (by omega)), hs1, hs2, hs3, hs4, hs5, hs6, hs11, hs12, hs15, hs31, hs32, hst⟩
        clear hst hF
        rintro k37 τ w ⟨i35, m36, hl_m36, hF, hs55, hs1, hs2, hs3, hs4, hs5, hs6, hs11, hs12, hs15, hs31, hs32, hst⟩
        obtain ⟨k38, rfl⟩ := Expand_l4_pos hF
        rw [Expand_l4] at hF
        refine CW.seq ?_
        refine CW.region ?_
        refine RW.soft Wd.a (v := .bool (decide (((i35 : Nat) : Int) < 4))) (by exact E.lss (k := .i64) (a := ((i35 : Nat) : Int)) (b := 4) (AF_ev rfl hs55) rfl) ?_
        refine RW.fin (fun τ => τ 1 = .pointer (some ⟨b1, 0, none⟩) ∧ τ 2 = .pointer (some ⟨b2, 0, none⟩) ∧ τ 3 = .pointer (some ⟨b3, 0, none⟩) ∧ τ 4 = .int .u8 ((j23).toNat : Int) ∧ τ 5 = .int .i64 ((i7 : Nat) : Int) ∧ τ 6 = .pointer (some ⟨b21, 0, none⟩) ∧ τ 11 = .int .i64 ((i7 : Nat) : Int) ∧ τ 12 = .bool true ∧ τ 15 = .bool false ∧ τ 31 = .int .i64 (((i7 : Nat) : Int) % 8) ∧ τ 32 = .bool j24 ∧ τ 55 = .int .i64 ((i35 : Nat) : Int) ∧ τ 56 = .bool (decide (((i35 : Nat) : Int) < 4))) ⟨up rfl hs1, up rfl hs2, up rfl hs3, up rfl hs4, up rfl hs5, up rfl hs6, up rfl hs11, up rfl hs12, up rfl hs15, up rfl hs31, up rfl hs32, up rfl hs55, tp⟩ ?_
        rintro τ ⟨hs1, hs2, hs3, hs4, hs5, hs6, hs11, hs12, hs15, hs31, hs32, hs55, hs56⟩
        refine CW.seq ?_
        refine CW.cond (AF_ev rfl hs56) (fun hc39 => ?_) (fun hc39 => ?_)
        · have hF := ct hc39 hF
          have hc39_ := hc39
          try simp only [decide_eq_true_eq] at hc39_
          refine CW.skip ?_
          refine Th.n ?_
          refine CW.seq ?_
          refine CW.block ?_
          refine CW.seq ?_
          refine CW.region ?_
          refine RW.soft Wd.a (v := .int .i64 ((i35 : Nat) : Int)) (by exact E.move (AF_ev rfl hs55)) ?_
          refine RW.soft Wd.a (v := .int .i64 ((i35 : Nat) : Int)) (by exact E.assign (AF_ev rfl tp)) ?_
          refine RW.fin (fun τ => τ 1 = .pointer (some ⟨b1, 0, none⟩) ∧ τ 2 = .pointer (some ⟨b2, 0, none⟩) ∧ τ 3 = .pointer (some ⟨b3, 0, none⟩) ∧ τ 4 = .int .u8 ((j23).toNat : Int) ∧ τ 5 = .int .i64 ((i7 : Nat) : Int) ∧ τ 6 = .pointer (some ⟨b21, 0, none⟩) ∧ τ 7 = .int .i64 ((i35 : Nat) : Int) ∧ τ 11 = .int .i64 ((i7 : Nat) : Int) ∧ τ 12 = .bool true ∧ τ 15 = .bool false ∧ τ 31 = .int .i64 (((i7 : Nat) : Int) % 8) ∧ τ 32 = .bool j24 ∧ τ 55 = .int .i64 ((i35 : Nat) : Int) ∧ τ 56 = .bool true) ⟨up rfl (up rfl hs1), up rfl (up rfl hs2), up rfl (up rfl hs3), up rfl (up rfl hs4), up rfl (up rfl hs5), up rfl (up rfl hs6), tp, up rfl (up rfl hs11), up rfl (up rfl hs12), up rfl (up rfl hs15), up rfl (up rfl hs31), up rfl (up rfl hs32), up rfl (up rfl hs55), up rfl (up rfl (Eq.trans hs56 (congrArg Value.bool hc39)))⟩ ?_
          rintro τ ⟨hs1, hs2, hs3, hs4, hs5, hs6, hs7, hs11, hs12, hs15, hs31, hs32, hs55, hs56⟩
          obtain ⟨u40, h_u40, hF⟩ := lp hF
          obtain ⟨m41, h_m41, hF⟩ := lp hF
          have hl_m41 : m41.length = 4 := by rw [h_m41, List.length_set]; exact hl_m36
          refine CW.regionE [2, 8] (fun w => w.cell? ⟨b21, i35, none⟩ = some (.int .u8 ((m36.getD i35 0#8).toNat : Int)) ∧ w.cell? ⟨b3, ((((i7 : Nat) : Int) - 8).toNat) * 4 + i35, none⟩ = some (.int .u8 ((m8.getD (((((i7 : Nat) : Int) - 8).toNat) * 4 + i35) 0#8).toNat : Int))) mixed ?_
          have hst := hst.drew
          generalize w.drew = w at hst ⊢
          have hS : w.cell? ⟨b21, i35, none⟩ = some (.int .u8 ((m36.getD i35 0#8).toNat : Int)) ∧ w.cell? ⟨b3, ((((i7 : Nat) : Int) - 8).toNat) * 4 + i35, none⟩ = some (.int .u8 ((m8.getD (((((i7 : Nat) : Int) - 8).toNat) * 4 + i35) 0#8).toNat : Int)) := ⟨(hst.cellL .here (getF (f := bu8) (d := 0#8) (by rw [hl_m36]; omega))), (hst.cellL (.there .here) (getF (f := bu8) (d := 0#8) (by rw [hl_m8]; omega)))⟩
          refine RE.takeF 0 rfl (by kernel_rfl) Wd.a (v := .int .i64 ((i35 : Nat) : Int)) (fun w => by exact E.move (AF_ev rfl hs7)) ?_
          refine RE.takeF 1 rfl (by kernel_rfl) Wd.a (v := .pointer (some ⟨b21, i35, none⟩)) (fun w => by exact E.indexAddrA (b := b21) (o := 0) (i := ((i35 : Nat) : Int)) Try.underlying156 sz5 (AF_ev rfl (up rfl hs6)) (AF_ev rfl tp) (by omega) (by omega) (by omega)) ?_
          refine RE.take 2 rfl (by kernel_rfl) Wd.a (v := .int .u8 ((m36.getD i35 0#8).toNat : Int)) (fun w hS => by exact E.load (a := ⟨b21, i35, none⟩) Try.underlying5 rfl (AF_ev rfl tp) hS.1) hS ?_
          refine RE.takeF 3 rfl (by kernel_rfl) Wd.a (v := .int .i64 ((i7 : Nat) : Int)) (fun w => by exact E.move (AF_ev rfl (up rfl (up rfl (up rfl hs5))))) ?_
          refine RE.takeF 4 rfl (by kernel_rfl) Wd.a (v := .int .i64 (((i7 : Nat) : Int) - 8)) (fun w => by exact E.sub (k := .i64) (a := ((i7 : Nat) : Int)) (b := 8) (AF_ev rfl tp) rfl (show IntKind.i64.wrap (((i7 : Nat) : Int) - 8) = ((i7 : Nat) : Int) - 8 from (by rw [IntWalk.i64_in _ (by omega)]))) ?_
          refine RE.takeF 5 rfl (by kernel_rfl) Wd.a (v := .int .i64 ((i35 : Nat) : Int)) (fun w => by exact E.move (AF_ev rfl (up rfl (up rfl (up rfl (up rfl (up rfl hs7))))))) ?_
          refine RE.takeF 6 rfl (by kernel_rfl) Wd.a (v := .pointer (some ⟨b3, ((((i7 : Nat) : Int) - 8).toNat) * 4, none⟩)) (fun w => by exact E.indexAddrA (b := b3) (o := 0) (i := ((i7 : Nat) : Int) - 8) Try.underlying157 sz156 (AF_ev rfl (up rfl (up rfl (up rfl (up rfl (up rfl (up rfl hs3))))))) (AF_ev rfl (up rfl tp)) (by omega) (by omega) (by omega)) ?_
          refine RE.takeF 7 rfl (by kernel_rfl) Wd.a (v := .pointer (some ⟨b3, ((((i7 : Nat) : Int) - 8).toNat) * 4 + i35, none⟩)) (fun w => by exact E.indexAddrA (b := b3) (o := ((((i7 : Nat) : Int) - 8).toNat) * 4) (i := ((i35 : Nat) : Int)) Try.underlying156 sz5 (AF_ev rfl tp) (AF_ev rfl (up rfl tp)) (by omega) (by omega) (by omega)) ?_
          refine RE.take 8 rfl (by kernel_rfl) Wd.a (v := .int .u8 ((m8.getD (((((i7 : Nat) : Int) - 8).toNat) * 4 + i35) 0#8).toNat : Int)) (fun w hS => by exact E.load (a := ⟨b3, ((((i7 : Nat) : Int) - 8).toNat) * 4 + i35, none⟩) Try.underlying5 rfl (AF_ev rfl tp) hS.2) hS ?_
          refine RE.takeF 9 rfl (by kernel_rfl) Wd.a (v := .int .u8 ((u40).toNat : Int)) (fun w => by exact E.v (E.uxor (a := m36.getD i35 0#8) (b := m8.getD (((((i7 : Nat) : Int) - 8).toNat) * 4 + i35) 0#8) UK.u8 (AF_ev rfl (up rfl (up rfl (up rfl (up rfl (up rfl (up rfl tp))))))) (AF_ev rfl tp)) (by first | (rw [h_u40]; done) | (rw [h_u40]; rfl))) ?_
          refine RE.takeF 10 rfl (by kernel_rfl) Wd.a (v := .pointer (some ⟨b21, i35, none⟩)) (fun w => by exact E.indexAddrA (b := b21) (o := 0) (i := ((i35 : Nat) : Int)) Try.underlying156 sz5 (AF_ev rfl (up rfl (up rfl (up rfl (up rfl (up rfl (up rfl (up rfl (up rfl (up rfl (up rfl hs6))))))))))) (AF_ev rfl (up rfl (up rfl (up rfl (up rfl (up rfl (up rfl (up rfl (up rfl (up rfl tp)))))))))) (by omega) (by omega) (by omega)) ?_
          refine RE.only 11 rfl (by kernel_rfl) Wd.a ?_
          refine H.storeL (b := b21) (o := i35) (m := 1) (v := .int .u8 ((u40).toNat : Int)) (ys := [bu8 u40]) (L' := (m41.map bu8)) (AF_ev rfl tp) (AF_ev rfl (up rfl tp)) hst .here sz5 rfl rfl (ones1 rfl) (by rw [h_m41]; exact putF (by rw [hl_m36]; omega)) fun w hst => ?_
          refine ⟨fun h => Bool.noConfusion ((show needs _ _ _ = false by kernel_rfl).symm.trans h), ?_⟩
          refine RE.done (by kernel_rfl) ?_
          refine Bl.n ?_
          refine Th.n ?_
          refine CW.region ?_
          refine RW.soft Wd.a (v := .int .i64 (((i35 : Nat) : Int) + 1)) (by exact E.add (k := .i64) (a := ((i35 : Nat) : Int)) (b := 1) (AF_ev rfl (u0 (up rfl (up rfl (up rfl (up rfl (up rfl (up rfl (up rfl (up rfl (up rfl (up rfl (up rfl hs55))))))))))))) rfl (show IntKind.i64.wrap (((i35 : Nat) : Int) + 1) = ((i35 : Nat) : Int) + 1 from (by rw [IntWalk.i64_in _ (by omega)]))) ?_
          refine RW.soft Wd.a (v := .int .i64 (((i35 : Nat) : Int) + 1)) (by exact E.move (AF_ev rfl tp)) ?_
          refine RW.nil ?_
          refine Th.n ?_
          have hst := hst.take (.there (.there (.there .here)))
          have hst := hst.take (.there (.there (.there .here)))
          have hst := hst.take (.there (.there (.there .here)))
          have hst := hst.take (.there (.there (.there .here)))
          exact ⟨k38, Nat.lt_succ_self _, (i35 + 1), m41, hl_m41, hF, (int_eq (a := ((i35 : Nat) : Int) + 1) tp (by omega)), up rfl (up rfl (u0 (up rfl (up rfl (up rfl (up rfl (up rfl (up rfl (up rfl (up rfl (up rfl (up rfl (up rfl hs1))))))))))))), up rfl (up rfl (u0 (up rfl (up rfl (up rfl (up rfl (up rfl (up rfl (up rfl (up rfl (up rfl (up rfl (up rfl hs2))))))))))))), up rfl (up rfl (u0 (up rfl (up rfl (up rfl (up rfl (up rfl (up rfl (up rfl (up rfl (up rfl (up rfl (up rfl hs3))))))))))))), up rfl (up rfl (u0 (up rfl (up rfl (up rfl (up rfl (up rfl (up rfl (up rfl (up rfl (up rfl (up rfl (up rfl hs4))))))))))))), up rfl (up rfl (u0 (up rfl (up rfl (up rfl (up rfl (up rfl (up rfl (up rfl (up rfl (up rfl (up rfl (up rfl hs5))))))))))))), up rfl (up rfl (u0 (up rfl (up rfl (up rfl (up rfl (up rfl (up rfl (up rfl (up rfl (up rfl (up rfl (up rfl hs6))))))))))))), up rfl (up rfl (u0 (up rfl (up rfl (up rfl (up rfl (up rfl (up rfl (up rfl (up rfl (up rfl (up rfl (up rfl hs11))))))))))))), up rfl (up rfl (u0 (up rfl (up rfl (up rfl (up rfl (up rfl (up rfl (up rfl (up rfl (up rfl (up rfl (up rfl hs12))))))))))))), up rfl (up rfl (u0 (up rfl (up rfl (up rfl (up rfl (up rfl (up rfl (up rfl (up rfl (up rfl (up rfl (up rfl hs15))))))))))))), up rfl (up rfl (u0 (up rfl (up rfl (up rfl (up rfl (up rfl (up rfl (up rfl (up rfl (up rfl (up rfl (up rfl hs31))))))))))))), up rfl (up rfl (u0 (up rfl (up rfl (up rfl (up rfl (up rfl (up rfl (up rfl (up rfl (up rfl (up rfl (up rfl hs32))))))))))))), hst⟩
        · have hF := cf hc39 hF
          have hc39_ := hc39
          try simp only [decide_eq_false_iff_not, Int.not_lt, Int.not_le, gt_iff_lt, ge_iff_le] at hc39_
          refine CW.exit ?_
          refine Th.x ?_
          refine Th.x ?_
          refine Bl.x ?_
          refine Th.n ?_
          refine CW.region ?_
          refine RW.soft Wd.a (v := .int .i64 ((i7 : Nat) : Int)) (by exact E.move (AF_ev rfl hs5)) ?_
          refine RW.soft Wd.a (v := .agg ((m36.map bu8)).toArray) (by exact E.loadN (b := b21) (o := 0) (cs := (m36.map bu8)) Try.underlying156 rfl sz156 (AF_ev rfl (up rfl hs6)) ((List.length_map _).trans hl_m36) (St.cellsOf hst .here allF)) ?_
          refine RW.soft Wd.a (v := .pointer (some ⟨b3, i7 * 4, none⟩)) (by exact E.indexAddrA (b := b3) (o := 0) (i := ((i7 : Nat) : Int)) Try.underlying157 sz156 (AF_ev rfl (up rfl (up rfl hs3))) (AF_ev rfl (up rfl tp)) (by omega) (by omega) (by omega)) ?_
          obtain ⟨m42, h_m42, hF⟩ := lp hF
          have hl_m42 : m42.length = 240 := by rw [h_m42]; exact ov_len hl_m8 (by rw [hl_m36]; omega)
          refine RW.hard Wd.a ?_
          refine H.storeL (b := b3) (o := i7 * 4) (m := 4) (v := .agg ((m36.map bu8)).toArray) (ys := (m36.map bu8)) (L' := (m42.map bu8)) (AF_ev rfl tp) (AF_ev rfl (up rfl tp)) hst (.there .here) sz156 rfl ((List.length_map _).trans hl_m36) (ones_map (fun _ => rfl)) (by rw [h_m42]; exact putA (by rw [hl_m36, hl_m8]; omega)) fun w hst => ?_
          refine RW.nil ?_
          refine Bl.n ?_
          refine Th.n ?_
          have hst := hst.take (.there (.there (.there .here)))
          have hst := hst.take (.there (.there (.there .here)))
          have hst := hst.take (.there (.there (.there .here)))
          have hst := (hst.take (.there (.there (.there .here)))).drop
          exact ⟨m42, j23, false, hl_m42, hF, u0 (up rfl (up rfl (up rfl hs1))), u0 (up rfl (up rfl (up rfl hs2))), u0 (up rfl (up rfl (up rfl hs3))), u0 (up rfl (up rfl (up rfl hs4))), u0 (up rfl (up rfl (up rfl hs5))), u0 (up rfl (up rfl (up rfl hs11))), u0 (up rfl (up rfl (up rfl hs12))), u0 (up rfl (up rfl (up rfl hs15))), hst⟩
    rintro τ w ⟨j12, j13, j14, hl_j12, hF, hs1, hs2, hs3, hs4, hs5, hs11, hs12, hs15, hst⟩
    unfold Expand_j2 at hF
    refine CW.region ?_
    refine RW.soft Wd.a (v := .int .i64 (((i7 : Nat) : Int) + 1)) (by exact E.add (k := .i64) (a := ((i7 : Nat) : Int)) (b := 1) (AF_ev rfl hs11) rfl (show IntKind.i64.wrap (((i7 : Nat) : Int) + 1) = ((i7 : Nat) : Int) + 1 from (by rw [IntWalk.i64_in _ (by omega)]))) ?_
    refine RW.soft Wd.a (v := .int .i64 (((i7 : Nat) : Int) + 1)) (by exact E.move (AF_ev rfl tp)) ?_
    refine RW.nil ?_
    refine Th.n ?_
    have hst := hst.take (.there (.there .here))
    have hst := hst.take (.there (.there .here))
    have hst := hst.take (.there (.there .here))
    exact ⟨k10, Nat.lt_succ_self _, j13, (i7 + 1), j12, hl_j12, hF, up rfl (up rfl hs4), (int_eq (a := ((i7 : Nat) : Int) + 1) tp (by omega)), up rfl (up rfl hs1), up rfl (up rfl hs2), up rfl (up rfl hs3), hst⟩
  · have hF := cf hc11 hF
    have hc11_ := hc11
    try simp only [decide_eq_false_iff_not, Int.not_lt, Int.not_le, gt_iff_lt, ge_iff_le] at hc11_
    refine CW.exit ?_
    refine Th.x ?_
    refine Th.x ?_
    refine Bl.x ?_
    refine Th.n ?_
    refine CW.seq ?_
    refine CW.region ?_
    refine RW.hard Wd.a ?_
    refine H.alloc zs140 hst fun b43 w hst => ?_
    refine RW.fin (fun τ => τ 1 = .pointer (some ⟨b1, 0, none⟩) ∧ τ 2 = .pointer (some ⟨b2, 0, none⟩) ∧ τ 3 = .pointer (some ⟨b3, 0, none⟩) ∧ τ 4 = .int .u8 ((s6).toNat : Int) ∧ τ 8 = .pointer (some ⟨b43, 0, none⟩) ∧ τ 11 = .int .i64 ((i7 : Nat) : Int) ∧ τ 12 = .bool false) ⟨up rfl hs1, up rfl hs2, up rfl hs3, up rfl hs4, tp, up rfl hs11, up rfl (Eq.trans hs12 (congrArg Value.bool hc11))⟩ ?_
    rintro τ ⟨hs1, hs2, hs3, hs4, hs8, hs11, hs12⟩
    refine CW.seq ?_
    refine CW.seq ?_
    refine CW.region ?_
    refine RW.soft Wd.a (v := .agg ((m8.map bu8)).toArray) (by exact E.loadN (b := b3) (o := 0) (cs := (m8.map bu8)) Try.underlying157 rfl sz157 (AF_ev rfl hs3) ((List.length_map _).trans hl_m8) (St.cellsOf hst (.there .here) allF)) ?_
    refine RW.soft Wd.a (v := .int .i64 0) (by exact E.move rfl) ?_
    refine RW.fin (fun τ => τ 1 = .pointer (some ⟨b1, 0, none⟩) ∧ τ 2 = .pointer (some ⟨b2, 0, none⟩) ∧ τ 3 = .pointer (some ⟨b3, 0, none⟩) ∧ τ 4 = .int .u8 ((s6).toNat : Int) ∧ τ 8 = .pointer (some ⟨b43, 0, none⟩) ∧ τ 11 = .int .i64 ((i7 : Nat) : Int) ∧ τ 12 = .bool false ∧ τ 74 = .agg ((m8.map bu8)).toArray ∧ τ 75 = .int .i64 0) ⟨up rfl (up rfl hs1), up rfl (up rfl hs2), up rfl (up rfl hs3), up rfl (up rfl hs4), up rfl (up rfl hs8), up rfl (up rfl hs11), up rfl (up rfl hs12), up rfl tp, tp⟩ ?_
    rintro τ ⟨hs1, hs2, hs3, hs4, hs8, hs11, hs12, hs74, hs75⟩
    refine CW.block ?_
    refine CW.loop (fun (k47 : Nat) (τ : Fr) (w : World) => ∃ (i45 : Nat) (m46 : List (BitVec 8)), m46.length = 240 ∧ Expand_l5 m8 k47 i45 m46 = some r ∧ τ 75 = .int .i64 ((i45 : Nat) : Int) ∧ τ 2 = .pointer (some ⟨b2, 0, none⟩) ∧ τ 8 = .pointer (some ⟨b43, 0, none⟩) ∧ τ 74 = .agg ((m8.map bu8)).toArray ∧ St p w (pt b43 (.cells ((m46.map bu8)).toArray 140) :: pt b2 (.cells (((List.replicate 240 0#8).map bu8)).toArray 140) :: R)) 1099511627776 ?_ ?_
    · skip
      have hst := hst.take (.there (.there .here))
      have hst := hst.take (.there .here)
      have hst := (hst.take (.there (.there .here))).drop
      have hst := (hst.take (.there (.there .here))).drop
      exact ⟨0, (List.replicate 240 0#8), (List.length_replicate), hF, (int_eq (a := 0) hs75 (by omega)), hs2, hs8, hs74, hst⟩
    clear hst hF
    rintro k47 τ w ⟨i45, m46, hl_m46, hF, hs75, hs2, hs8, hs74, hst⟩
    obtain ⟨k48, rfl⟩ := Expand_l5_pos hF
    rw [Expand_l5] at hF
    refine CW.seq ?_
    refine CW.region ?_
    refine RW.soft Wd.a (v := .bool (decide (((i45 : Nat) : Int) < 60))) (by exact E.lss (k := .i64) (a := ((i45 : Nat) : Int)) (b := 60) (AF_ev rfl hs75) rfl) ?_
    refine RW.fin (fun τ => τ 2 = .pointer (some ⟨b2, 0, none⟩) ∧ τ 8 = .pointer (some ⟨b43, 0, none⟩) ∧ τ 74 = .agg ((m8.map bu8)).toArray ∧ τ 75 = .int .i64 ((i45 : Nat) : Int) ∧ τ 76 = .bool (decide (((i45 : Nat) : Int) < 60))) ⟨up rfl hs2, up rfl hs8, up rfl hs74, up rfl hs75, tp⟩ ?_
    rintro τ ⟨hs2, hs8, hs74, hs75, hs76⟩
    refine CW.seq ?_
    refine CW.cond (AF_ev rfl hs76) (fun hc49 => ?_) (fun hc49 => ?_)
    · have hF := ct hc49 hF
      have hc49_ := hc49
      try simp only [decide_eq_true_eq] at hc49_
      refine CW.skip ?_
      refine Th.n ?_
      refine CW.seq ?_
      refine CW.block ?_
      refine CW.seq ?_
      refine CW.region ?_
      refine RW.soft Wd.a (v := .int .i64 ((i45 : Nat) : Int)) (by exact E.move (AF_ev rfl hs75)) ?_
      obtain ⟨a50, h_a50, hF⟩ := lp hF
      have hl_a50 : a50.length = 4 := by rw [h_a50]; exact sl_len hl_m8 (by omega)
      refine RW.soft Wd.a (v := .agg ((a50.map bu8)).toArray) (by exact E.indexA (j := i45) (L := (m8.map bu8)) (ys := (a50.map bu8)) Try.underlying157 Try.underlying156 rfl sz156 (AF_ev rfl (up rfl hs74)) (AF_ev rfl (up rfl hs75)) rfl (by omega) (by rw [h_a50, map_sl])) ?_
      refine RW.hard Wd.a ?_
      refine H.alloc zs156 hst fun b51 w hst => ?_
      refine RW.soft Wd.a (v := .int .i64 ((i45 : Nat) : Int)) (by exact E.assign (AF_ev rfl (up rfl (up rfl tp)))) ?_
      refine RW.hard Wd.a ?_
      refine H.storeL (b := b51) (o := 0) (m := 4) (v := .agg ((a50.map bu8)).toArray) (ys := (a50.map bu8)) (L' := (a50.map bu8)) (AF_ev rfl (up rfl tp)) (AF_ev rfl (up rfl (up rfl tp))) hst .here sz156 rfl ((List.length_map _).trans hl_a50) (ones_map (fun _ => rfl)) (putW (Eq.trans (show (a50.map bu8).length = 4 from ((List.length_map _).trans hl_a50)) (Eq.symm (show ((List.replicate 4 0#8).map bu8).length = 4 from ((List.length_map _).trans (List.length_replicate)))))) fun w hst => ?_
      refine RW.fin (fun τ => τ 2 = .pointer (some ⟨b2, 0, none⟩) ∧ τ 8 = .pointer (some ⟨b43, 0, none⟩) ∧ τ 9 = .int .i64 ((i45 : Nat) : Int) ∧ τ 10 = .pointer (some ⟨b51, 0, none⟩) ∧ τ 74 = .agg ((m8.map bu8)).toArray ∧ τ 75 = .int .i64 ((i45 : Nat) : Int) ∧ τ 76 = .bool true) ⟨u0 (up rfl (up rfl (up rfl (up rfl hs2)))), u0 (up rfl (up rfl (up rfl (up rfl hs8)))), u0 tp, u0 (up rfl tp), u0 (up rfl (up rfl (up rfl (up rfl hs74)))), u0 (up rfl (up rfl (up rfl (up rfl hs75)))), u0 (up rfl (up rfl (up rfl (up rfl (Eq.trans hs76 (congrArg Value.bool hc49))))))⟩ ?_
      rintro τ ⟨hs2, hs8, hs9, hs10, hs74, hs75, hs76⟩
      obtain ⟨hg52, hF⟩ := pl hF
      obtain ⟨m53, h_m53, hF⟩ := lp hF
      have hl_m53 : m53.length = 240 := by rw [h_m53]; exact ov_len hl_m46 (by rw [List.length_take]; omega)
      refine CW.regionE [] (fun w => True) mixed ?_
      have hst := hst.drew
      generalize w.drew = w at hst ⊢
      have hS : True := trivial
      refine RE.takeF 0 rfl (by kernel_rfl) Wd.a (v := .int .i64 ((i45 : Nat) : Int)) (fun w => by exact E.move (AF_ev rfl hs9)) ?_
      refine RE.takeF 1 rfl (by kernel_rfl) Wd.a (v := .int .i64 (((i45 : Nat) : Int) / 4)) (fun w => by exact E.quo (k := .i64) (a := ((i45 : Nat) : Int)) (b := 4) (AF_ev rfl tp) rfl (by omega) (by rw [Int.tdiv_eq_ediv_of_nonneg (by omega)]; exact (show IntKind.i64.wrap (((i45 : Nat) : Int) / 4) = ((i45 : Nat) : Int) / 4 from by rw [IntWalk.i64_in _ (by omega)]))) ?_
      refine RE.takeF 2 rfl (by kernel_rfl) Wd.a (v := .pointer (some ⟨b43, ((((i45 : Nat) : Int) / 4).toNat) * 16, none⟩)) (fun w => by exact E.indexAddrA (b := b43) (o := 0) (i := ((i45 : Nat) : Int) / 4) Try.underlying140 sz119 (AF_ev rfl (up rfl (up rfl hs8))) (AF_ev rfl tp) (by omega) (by omega) (by omega)) ?_
      refine RE.takeF 3 rfl (by kernel_rfl) Wd.a (v := .int .i64 ((i45 : Nat) : Int)) (fun w => by exact E.move (AF_ev rfl (up rfl (up rfl (up rfl hs9))))) ?_
      refine RE.takeF 4 rfl (by kernel_rfl) Wd.a (v := .int .i64 (((i45 : Nat) : Int) % 4)) (fun w => by exact E.rem (k := .i64) (a := ((i45 : Nat) : Int)) (b := 4) (AF_ev rfl tp) rfl (by omega) (by exact Int.tmod_eq_emod_of_nonneg (by omega))) ?_
      refine RE.takeF 5 rfl (by kernel_rfl) Wd.a (v := .int .i64 (4 * (((i45 : Nat) : Int) % 4))) (fun w => by exact E.mul (k := .i64) (a := 4) (b := ((i45 : Nat) : Int) % 4) rfl (AF_ev rfl tp) (show IntKind.i64.wrap (4 * (((i45 : Nat) : Int) % 4)) = 4 * (((i45 : Nat) : Int) % 4) from (by rw [IntWalk.i64_in _ (by omega)]))) ?_
      refine RE.takeF 6 rfl (by kernel_rfl) Wd.a (v := .slice (some ⟨b43, ((((i45 : Nat) : Int) / 4).toNat) * 16 + (4 * (((i45 : Nat) : Int) % 4)).toNat, none⟩) (16 - ((4 * (((i45 : Nat) : Int) % 4)).toNat)) (16 - ((4 * (((i45 : Nat) : Int) % 4)).toNat))) (fun w => by exact E.v (run_sliceArr (b := b43) (o := ((((i45 : Nat) : Int) / 4).toNat) * 16) (N := 16) (i := (4 * (((i45 : Nat) : Int) % 4)).toNat) (j := 16) Try.underlying119 sz5 _ (AF_ev rfl (up rfl (up rfl (up rfl tp)))) (int_eq (a := 4 * (((i45 : Nat) : Int) % 4)) (AF_ev rfl tp) (by omega)) rfl (by omega) (by omega)) (by first | (rw [if_neg (by omega), Nat.mul_one]; done) | (rw [if_neg (by omega), Nat.mul_one, Nat.zero_add]; done) | (rw [if_neg (by omega), Nat.mul_one]; rfl))) ?_
      refine RE.takeF 7 rfl (by kernel_rfl) Wd.a (v := .slice (some ⟨b51, 0, none⟩) 4 4) (fun w => by exact E.v (run_sliceArr (b := b51) (o := 0) (N := 4) (i := 0) (j := 4) Try.underlying156 sz5 _ (AF_ev rfl (up rfl (up rfl (up rfl (up rfl (up rfl (up rfl (up rfl hs10)))))))) rfl rfl (by omega) (by omega)) (by first | rfl | simp)) ?_
      refine RE.only 8 rfl (by kernel_rfl) Wd.a ?_
      refine H.copyL (b := b43) (o := ((((i45 : Nat) : Int) / 4).toNat) * 16 + (4 * (((i45 : Nat) : Int) % 4)).toNat) (dLen := 16 - ((4 * (((i45 : Nat) : Int) % 4)).toNat)) (dCap := 16 - ((4 * (((i45 : Nat) : Int) % 4)).toNat)) (m := 4) (L' := (m53.map bu8)) (src := (a50.map bu8)) Try.underlying25 sz5 (AF_ev rfl (up rfl tp)) (AF_ev rfl tp) hst (.there .here) (Src.ofL (hst.take .here) ((List.length_map _).trans hl_a50) (by first | omega | (simp; done)) allF) (ones_map (fun _ => rfl)) (by rw [show ((m46.map bu8)).length = 240 from ((List.length_map _).trans hl_m46)]; omega) (by rw [h_m53, ← List.map_take]; exact putA (by rw [List.length_take, hl_m46]; omega)) fun w hst => ?_
      refine ⟨fun h => Bool.noConfusion ((show needs _ _ _ = false by kernel_rfl).symm.trans h), ?_⟩
      refine RE.done (by kernel_rfl) ?_
      refine Bl.n ?_
      refine Th.n ?_
      refine CW.region ?_
      refine RW.soft Wd.a (v := .int .i64 (((i45 : Nat) : Int) + 1)) (by exact E.add (k := .i64) (a := ((i45 : Nat) : Int)) (b := 1) (AF_ev rfl (up rfl (up rfl (up rfl (up rfl (up rfl (up rfl (up rfl (up rfl (up rfl hs75)))))))))) rfl (show IntKind.i64.wrap (((i45 : Nat) : Int) + 1) = ((i45 : Nat) : Int) + 1 from (by rw [IntWalk.i64_in _ (by omega)]))) ?_
      refine RW.soft Wd.a (v := .int .i64 (((i45 : Nat) : Int) + 1)) (by exact E.move (AF_ev rfl tp)) ?_
      refine RW.nil ?_
      refine Th.n ?_
      have hst := hst.take (.there (.there .here))
      have hst := hst.take (.there (.there .here))
      have hst := (hst.take (.there (.there .here))).drop
      exact ⟨k48, Nat.lt_succ_self _, (i45 + 1), m53, hl_m53, hF, (int_eq (a := ((i45 : Nat) : Int) + 1) tp (by omega)), up rfl (up rfl (up rfl (up rfl (up rfl (up rfl (up rfl (up rfl (up rfl (up rfl (up rfl hs2)))))))))), up rfl (up rfl (up rfl (up rfl (up rfl (up rfl (up rfl (up rfl (up rfl (up rfl (up rfl hs8)))))))))), up rfl (up rfl (up rfl (up rfl (up rfl (up rfl (up rfl (up rfl (up rfl (up rfl (up rfl hs74)))))))))), hst⟩
    · have hF := cf hc49 hF
      have hc49_ := hc49
      try simp only [decide_eq_false_iff_not, Int.not_lt, Int.not_le, gt_iff_lt, ge_iff_le] at hc49_
      refine CW.exit ?_
      refine Th.x ?_
      refine Th.x ?_
      refine Bl.x ?_
      refine Th.n ?_
      refine CW.seq ?_
      refine CW.region ?_
      refine RW.soft Wd.a (v := .agg ((m46.map bu8)).toArray) (by exact E.loadN (b := b43) (o := 0) (cs := (m46.map bu8)) Try.underlying140 rfl sz140 (AF_ev rfl hs8) ((List.length_map _).trans hl_m46) (St.cellsOf hst .here allF)) ?_
      refine RW.hard Wd.a ?_
      refine H.storeL (b := b2) (o := 0) (m := 240) (v := .agg ((m46.map bu8)).toArray) (ys := (m46.map bu8)) (L' := (m46.map bu8)) (AF_ev rfl (up rfl hs2)) (AF_ev rfl tp) hst (.there .here) sz140 rfl ((List.length_map _).trans hl_m46) (ones_map (fun _ => rfl)) (putW (Eq.trans (show (m46.map bu8).length = 240 from ((List.length_map _).trans hl_m46)) (Eq.symm (show ((List.replicate 240 0#8).map bu8).length = 240 from ((List.length_map _).trans (List.length_replicate)))))) fun w hst => ?_
      refine RW.fin (fun τ => τ 2 = .pointer (some ⟨b2, 0, none⟩) ∧ τ 8 = .pointer (some ⟨b43, 0, none⟩) ∧ τ 74 = .agg ((m8.map bu8)).toArray ∧ τ 75 = .int .i64 ((i45 : Nat) : Int) ∧ τ 76 = .bool false) ⟨u0 (up rfl hs2), u0 (up rfl hs8), u0 (up rfl hs74), u0 (up rfl hs75), u0 (up rfl (Eq.trans hs76 (congrArg Value.bool hc49)))⟩ ?_
      rintro τ ⟨hs2, hs8, hs74, hs75, hs76⟩
      refine CW.ret ?_
      refine ret1 (v := .agg ((m46.map bu8)).toArray) rfl (by exact (.cell (AF_ev rfl hs2) (hst.blockAt (.there .here)) Try.underlying140 rfl (by rw [List.size_toArray, show ((m46.map bu8)).length = 240 from ((List.length_map _).trans hl_m46)]; exact sz140) .nil)) ?_
      have hst := (hst.take .here).drop
      have hst := (hst.take .here).drop
      rw [somE hF]
      exact ⟨rfl, hl_m46, hst⟩

def Hash_l1 (h : List (BitVec 8))  : Nat → List (BitVec 8) → List (BitVec 8) → Option (List (BitVec 8))
  | 0, _, _ => none
  | k12 + 1, s7, m10 =>
    bif decide (((s7.length : Nat) : Int) > 0) then
      lt_ (ov (List.replicate 16 0#8) 0 (s7.take 16)) fun m15 =>
      if min s7.length 16 ≤ s7.length then
        lt_ (sl (min s7.length 16) (s7.length - (min s7.length 16)) s7) fun t18 =>
        (BXor m10 m15).bind fun r21 =>
        (BMul r21 h).bind fun r23 =>
        Hash_l1 h k12 t18 r23
      else none
    else
      some (m10)
theorem Hash_l1_pos {h : List (BitVec 8)}  {fu_ : Nat} {s7 : List (BitVec 8)} {m10 : List (BitVec 8)} {r : List (BitVec 8)} (h : Hash_l1 h fu_ s7 m10 = some r) : ∃ j, fu_ = j + 1 := by
  cases fu_ with
  | zero => cases (show (none : Option (List (BitVec 8))) = some r from h)
  | succ j => exact ⟨j, rfl⟩
def Hash (h : List (BitVec 8)) (b : List (BitVec 8)) : Option (List (BitVec 8)) :=
  Hash_l1 h 1099511627776 b (List.replicate 16 0#8)
theorem Hash_C {p : Pers} {w : World} {R : List Assn} {A : Assn} (h : List (BitVec 8)) (hl_h : h.length = 16) {X_b : Option Addr} {c_b : Nat} (b : List (BitVec 8)) (hm_b : b.length ≤ 1000000) (hS_b : ∀ w H, St p w (A :: H) → SL.Src w 1 (.slice X_b b.length c_b) b.length (b.map bu8)) (r : List (BitVec 8)) (hF : Hash h b = some r) (hst : St p w (A :: R)) :
    Calls Try.prog 90 #[.agg ((h.map bu8)).toArray, .slice X_b b.length c_b] w fun e w => e = .returned (.agg ((r.map bu8)).toArray) ∧ r.length = 16 ∧ St p w (A :: R) := by
  unfold Hash at hF
  refine enter Try.func90 rfl (by simp) (n := 23) rfl fun τ hτ => ?_
  have hs0 : τ 0 = .agg ((h.map bu8)).toArray := hτ 0 (by simp)
  have hs1 : τ 1 = .slice X_b b.length c_b := hτ 1 (by simp)
  clear hτ
  refine CW.seq ?_
  refine CW.region ?_
  refine RW.hard Wd.a ?_
  refine H.box (v := .agg ((h.map bu8)).toArray) (AF_ev rfl hs0) hst fun b1 w hst => ?_
  refine RW.hard Wd.a ?_
  refine H.alloc zs119 hst fun b2 w hst => ?_
  refine RW.fin (fun τ => τ 0 = .agg ((h.map bu8)).toArray ∧ τ 1 = .slice X_b b.length c_b ∧ τ 2 = .pointer (some ⟨b1, 0, none⟩) ∧ τ 4 = .pointer (some ⟨b2, 0, none⟩)) ⟨up rfl (up rfl hs0), up rfl (up rfl hs1), up rfl tp, tp⟩ ?_
  rintro τ ⟨hs0, hs1, hs2, hs4⟩
  refine CW.seq ?_
  refine CW.region ?_
  refine RW.hard Wd.a ?_
  refine H.alloc zs119 hst fun b3 w hst => ?_
  refine RW.fin (fun τ => τ 0 = .agg ((h.map bu8)).toArray ∧ τ 1 = .slice X_b b.length c_b ∧ τ 2 = .pointer (some ⟨b1, 0, none⟩) ∧ τ 4 = .pointer (some ⟨b2, 0, none⟩) ∧ τ 5 = .pointer (some ⟨b3, 0, none⟩)) ⟨up rfl hs0, up rfl hs1, up rfl hs2, up rfl hs4, tp⟩ ?_
  rintro τ ⟨hs0, hs1, hs2, hs4, hs5⟩
  refine CW.seq ?_
  refine CW.block ?_
  refine CW.loop (fun (k11 : Nat) (τ : Fr) (w : World) => ∃ (s7 : List (BitVec 8)) (X8 : Option Addr) (c9 : Nat) (m10 : List (BitVec 8)), (∀ w H, St p w (A :: H) → SL.Src w 1 (.slice X8 s7.length c9) s7.length (s7.map bu8)) ∧ s7.length ≤ 1000000 ∧ m10.length = 16 ∧ Hash_l1 h k11 s7 m10 = some r ∧ τ 1 = .slice X8 s7.length c9 ∧ τ 2 = .pointer (some ⟨b1, 0, none⟩) ∧ τ 4 = .pointer (some ⟨b2, 0, none⟩) ∧ τ 5 = .pointer (some ⟨b3, 0, none⟩) ∧ St p w (pt b3 (.cells ((m10.map bu8)).toArray 119) :: pt b2 (.cells (((List.replicate 16 0#8).map bu8)).toArray 119) :: pt b1 (.cells ((h.map bu8)).toArray 119) :: A :: R)) 1099511627776 ?_ ?_
  · skip
    have hst := hst.take (.there (.there (.there .here)))
    have hst := hst.take (.there (.there (.there .here)))
    have hst := hst.take (.there (.there (.there .here)))
    have hst := hst.take (.there (.there (.there .here)))
    exact ⟨b, X_b, c_b, (List.replicate 16 0#8), (fun w H s => (hS_b _ _ s)), (by first | omega | (simp; done) | (simp; omega)), (List.length_replicate), hF, hs1, hs2, hs4, hs5, hst⟩
  clear hst hF
  rintro k11 τ w ⟨s7, X8, c9, m10, hS_s7, hm_s7, hl_m10, hF, hs1, hs2, hs4, hs5, hst⟩
  obtain ⟨k12, rfl⟩ := Hash_l1_pos hF
  rw [Hash_l1] at hF
  refine CW.seq ?_
  refine CW.seq ?_
  refine CW.region ?_
  refine RW.soft Wd.a (v := .slice X8 s7.length c9) (by exact E.move (AF_ev rfl hs1)) ?_
  refine RW.soft Wd.a (v := .int .i64 ((s7.length : Nat) : Int)) (by exact E.lenS (p := X8) (l := s7.length) (c := c9) Try.underlying25 (AF_ev rfl tp)) ?_
  refine RW.soft Wd.a (v := .bool (decide (((s7.length : Nat) : Int) > 0))) (by exact E.gtr (k := .i64) (a := ((s7.length : Nat) : Int)) (b := 0) (AF_ev rfl tp) rfl) ?_
  refine RW.fin (fun τ => τ 1 = .slice X8 s7.length c9 ∧ τ 2 = .pointer (some ⟨b1, 0, none⟩) ∧ τ 4 = .pointer (some ⟨b2, 0, none⟩) ∧ τ 5 = .pointer (some ⟨b3, 0, none⟩) ∧ τ 10 = .bool (decide (((s7.length : Nat) : Int) > 0))) ⟨up rfl (up rfl (up rfl hs1)), up rfl (up rfl (up rfl hs2)), up rfl (up rfl (up rfl hs4)), up rfl (up rfl (up rfl hs5)), tp⟩ ?_
  rintro τ ⟨hs1, hs2, hs4, hs5, hs10⟩
  refine CW.cond (AF_ev rfl hs10) (fun hc13 => ?_) (fun hc13 => ?_)
  · have hF := ct hc13 hF
    have hc13_ := hc13
    try simp only [decide_eq_true_eq, gt_iff_lt, ge_iff_le] at hc13_
    refine CW.skip ?_
    refine Th.n ?_
    refine CW.block ?_
    refine CW.seq ?_
    refine CW.region ?_
    refine RW.hard Wd.a ?_
    refine H.alloc zs119 hst fun b14 w hst => ?_
    refine RW.fin (fun τ => τ 1 = .slice X8 s7.length c9 ∧ τ 2 = .pointer (some ⟨b1, 0, none⟩) ∧ τ 4 = .pointer (some ⟨b2, 0, none⟩) ∧ τ 5 = .pointer (some ⟨b3, 0, none⟩) ∧ τ 6 = .pointer (some ⟨b14, 0, none⟩) ∧ τ 10 = .bool true) ⟨up rfl hs1, up rfl hs2, up rfl hs4, up rfl hs5, tp, up rfl (Eq.trans hs10 (congrArg Value.bool hc13))⟩ ?_
    rintro τ ⟨hs1, hs2, hs4, hs5, hs6, hs10⟩
    refine CW.seq ?_
    refine CW.region ?_
    refine RW.soft Wd.a (v := .slice (some ⟨b14, 0, none⟩) 16 16) (by exact E.v (run_sliceArr (b := b14) (o := 0) (N := 16) (i := 0) (j := 16) Try.underlying119 sz5 _ (AF_ev rfl hs6) rfl rfl (by omega) (by omega)) (by first | rfl | simp)) ?_
    refine RW.soft Wd.a (v := .slice X8 s7.length c9) (by exact E.move (AF_ev rfl (up rfl hs1))) ?_
    obtain ⟨m15, h_m15, hF⟩ := lp hF
    have hl_m15 : m15.length = 16 := by rw [h_m15]; exact ov_len (List.length_replicate) (by rw [List.length_take]; omega)
    refine RW.hard Wd.a ?_
    refine H.copyL (b := b14) (o := 0) (dLen := 16) (dCap := 16) (m := s7.length) (L' := (m15.map bu8)) (src := (s7.map bu8)) Try.underlying25 sz5 (AF_ev rfl (up rfl tp)) (AF_ev rfl tp) hst .here (hS_s7 _ _ (hst.take (.there (.there (.there (.there .here)))))) (ones_map (fun _ => rfl)) (by rw [show (((List.replicate 16 0#8).map bu8)).length = 16 from ((List.length_map _).trans (List.length_replicate))]; omega) (by rw [h_m15, ← List.map_take]; exact putA (by rw [List.length_take, (List.length_replicate)]; omega)) fun w hst => ?_
    refine RW.soft Wd.a (v := .int .i64 ((min s7.length 16 : Nat) : Int)) (by exact E.assign (AF_ev rfl tp)) ?_
    refine RW.fin (fun τ => τ 1 = .slice X8 s7.length c9 ∧ τ 2 = .pointer (some ⟨b1, 0, none⟩) ∧ τ 4 = .pointer (some ⟨b2, 0, none⟩) ∧ τ 5 = .pointer (some ⟨b3, 0, none⟩) ∧ τ 6 = .pointer (some ⟨b14, 0, none⟩) ∧ τ 7 = .int .i64 ((min s7.length 16 : Nat) : Int) ∧ τ 10 = .bool true) ⟨up rfl (up rfl (up rfl (up rfl hs1))), up rfl (up rfl (up rfl (up rfl hs2))), up rfl (up rfl (up rfl (up rfl hs4))), up rfl (up rfl (up rfl (up rfl hs5))), up rfl (up rfl (up rfl (up rfl hs6))), tp, up rfl (up rfl (up rfl (up rfl hs10)))⟩ ?_
    rintro τ ⟨hs1, hs2, hs4, hs5, hs6, hs7, hs10⟩
    obtain ⟨hg16, hF⟩ := pl hF
    have hcap_c9 : s7.length ≤ c9 := (show SL.Src w 1 (.slice X8 s7.length c9) s7.length (s7.map bu8) from (hS_s7 _ _ (hst.take (.there (.there (.there (.there .here))))))).len.2.1
    obtain ⟨t18, h_t18, hF⟩ := lp hF
    have hl_t18 : t18.length = s7.length - (min s7.length 16) := by rw [h_t18]; exact sl_len rfl (by omega)
    obtain ⟨c20, hc_c20⟩ : ∃ z, z = c9 - (min s7.length 16) := ⟨_, rfl⟩
    obtain ⟨X19, hX_X19⟩ : ∃ z, z = sbA X8 c9 (min s7.length 16) 1 := ⟨_, rfl⟩
    have hS_X19 : ∀ w H, St p w (A :: H) → SL.Src w 1 (.slice X19 t18.length c20) t18.length (t18.map bu8) := fun w H s => (show SL.Src w 1 (.slice X19 t18.length c20) t18.length (t18.map bu8) from by have h_ := Src.sub ((hS_s7 _ _ s)) (i := min s7.length 16) (j := s7.length) (by omega) (by omega); rw [← hX_X19] at h_; exact h_.cast (by omega) (by omega) (by first | (rw [h_t18, map_sl]; done) | (rw [h_t18, map_sl]; rfl)))
    obtain ⟨r21, h_r21, hF⟩ := bd hF
    obtain ⟨r23, h_r23, hF⟩ := bd hF
    refine CW.regionE [0, 1, 3] (fun w => (∀ j_ v_, ((m10.map bu8) : List Value)[j_]? = some v_ → w.cell? ⟨b3, 0 + j_, none⟩ = some v_) ∧ (∀ j_ v_, ((m15.map bu8) : List Value)[j_]? = some v_ → w.cell? ⟨b14, 0 + j_, none⟩ = some v_) ∧ (∀ j_ v_, ((h.map bu8) : List Value)[j_]? = some v_ → w.cell? ⟨b1, 0 + j_, none⟩ = some v_)) mixed ?_
    have hst := hst.drew
    generalize w.drew = w at hst ⊢
    have hS : (∀ j_ v_, ((m10.map bu8) : List Value)[j_]? = some v_ → w.cell? ⟨b3, 0 + j_, none⟩ = some v_) ∧ (∀ j_ v_, ((m15.map bu8) : List Value)[j_]? = some v_ → w.cell? ⟨b14, 0 + j_, none⟩ = some v_) ∧ (∀ j_ v_, ((h.map bu8) : List Value)[j_]? = some v_ → w.cell? ⟨b1, 0 + j_, none⟩ = some v_) := ⟨(St.cellsOf hst (.there .here) allF), (St.cellsOf hst .here allF), (St.cellsOf hst (.there (.there (.there .here))) allF)⟩
    refine RE.take 0 rfl (by kernel_rfl) Wd.a (v := .agg ((m10.map bu8)).toArray) (fun w hS => by exact E.loadN (b := b3) (o := 0) (cs := (m10.map bu8)) Try.underlying119 rfl sz119 (AF_ev rfl hs5) ((List.length_map _).trans hl_m10) hS.1) hS ?_
    refine RE.take 1 rfl (by kernel_rfl) Wd.a (v := .agg ((m15.map bu8)).toArray) (fun w hS => by exact E.loadN (b := b14) (o := 0) (cs := (m15.map bu8)) Try.underlying119 rfl sz119 (AF_ev rfl (up rfl hs6)) ((List.length_map _).trans hl_m15) hS.2.1) hS ?_
    refine RE.take 3 rfl (by kernel_rfl) Wd.a (v := .agg ((h.map bu8)).toArray) (fun w hS => by exact E.loadN (b := b1) (o := 0) (cs := (h.map bu8)) Try.underlying119 rfl sz119 (AF_ev rfl (up rfl (up rfl hs2))) ((List.length_map _).trans hl_h) hS.2.2) hS ?_
    refine RE.takeF 5 rfl (by kernel_rfl) Wd.a (v := .slice X8 s7.length c9) (fun w => by exact E.move (AF_ev rfl (up rfl (up rfl (up rfl hs1))))) ?_
    refine RE.takeF 6 rfl (by kernel_rfl) Wd.a (v := .int .i64 ((min s7.length 16 : Nat) : Int)) (fun w => by exact E.move (AF_ev rfl (up rfl (up rfl (up rfl (up rfl hs7)))))) ?_
    refine RE.takeF 7 rfl (by kernel_rfl) Wd.a (v := .slice X19 t18.length c20) (fun w => by exact E.v (run_slice (X := X8) (m := s7.length) (c := c9) (i := min s7.length 16) (j := s7.length) (k := c9) Try.underlying25 sz5 _ (AF_ev rfl (up rfl tp)) (AF_ev rfl tp) ⟨rfl, rfl⟩ rfl (by omega) (by omega) (by omega)) (by first | (rw [hX_X19, hc_c20, hl_t18]; done) | (rw [hX_X19, hc_c20, hl_t18]; rfl) | (rw [hX_X19, hc_c20, hl_t18]; simp))) ?_
    refine RE.only 2 rfl (by kernel_rfl) Wd.a ?_
    refine H.call0 Try.func89 nm89 rfl (map2 (AF_ev rfl (up rfl (up rfl (up rfl (up rfl (up rfl tp)))))) (AF_ev rfl (up rfl (up rfl (up rfl (up rfl tp)))))) (Calls.mono (BXor_C m10 hl_m10 m15 hl_m15 r21 h_r21 hst) ?_)
    rintro _ w ⟨rfl, hl_q29_0, hst⟩
    refine ⟨_, rfl, ?_⟩
    have hS : (∀ j_ v_, ((m10.map bu8) : List Value)[j_]? = some v_ → w.cell? ⟨b3, 0 + j_, none⟩ = some v_) ∧ (∀ j_ v_, ((m15.map bu8) : List Value)[j_]? = some v_ → w.cell? ⟨b14, 0 + j_, none⟩ = some v_) ∧ (∀ j_ v_, ((h.map bu8) : List Value)[j_]? = some v_ → w.cell? ⟨b1, 0 + j_, none⟩ = some v_) := ⟨(St.cellsOf hst (.there .here) allF), (St.cellsOf hst .here allF), (St.cellsOf hst (.there (.there (.there .here))) allF)⟩
    refine ⟨fun _ _ => hS, ?_⟩
    refine RE.only 4 rfl (by kernel_rfl) Wd.a ?_
    refine H.call0 Try.func106 nm106 rfl (map2 (AF_ev rfl tp) (AF_ev rfl (up rfl (up rfl (up rfl (up rfl tp)))))) (Calls.mono (BMul_C r21 hl_q29_0 h hl_h r23 h_r23 hst) ?_)
    rintro _ w ⟨rfl, hl_q30_0, hst⟩
    refine ⟨_, rfl, ?_⟩
    have hS : (∀ j_ v_, ((m10.map bu8) : List Value)[j_]? = some v_ → w.cell? ⟨b3, 0 + j_, none⟩ = some v_) ∧ (∀ j_ v_, ((m15.map bu8) : List Value)[j_]? = some v_ → w.cell? ⟨b14, 0 + j_, none⟩ = some v_) ∧ (∀ j_ v_, ((h.map bu8) : List Value)[j_]? = some v_ → w.cell? ⟨b1, 0 + j_, none⟩ = some v_) := ⟨(St.cellsOf hst (.there .here) allF), (St.cellsOf hst .here allF), (St.cellsOf hst (.there (.there (.there .here))) allF)⟩
    refine ⟨fun _ _ => hS, ?_⟩
    refine RE.only 8 rfl (by kernel_rfl) Wd.a ?_
    refine H.storeL (b := b3) (o := 0) (m := 16) (v := .agg ((r23.map bu8)).toArray) (ys := (r23.map bu8)) (L' := (r23.map bu8)) (AF_ev rfl (up rfl (up rfl (up rfl (up rfl (up rfl (up rfl (up rfl (up rfl hs5))))))))) (AF_ev rfl tp) hst (.there .here) sz119 rfl ((List.length_map _).trans hl_q30_0) (ones_map (fun _ => rfl)) (putW (Eq.trans (show (r23.map bu8).length = 16 from ((List.length_map _).trans hl_q30_0)) (Eq.symm (show (m10.map bu8).length = 16 from ((List.length_map _).trans hl_m10))))) fun w hst => ?_
    refine ⟨fun h => Bool.noConfusion ((show needs _ _ _ = false by kernel_rfl).symm.trans h), ?_⟩
    refine RE.only 9 rfl (by kernel_rfl) Wd.a (Hd.value (v := .slice X19 t18.length c20) (by exact E.assign (AF_ev rfl (u0 (up rfl (up rfl tp))))) ⟨fun h => Bool.noConfusion ((show needs _ _ _ = false by kernel_rfl).symm.trans h), ?_⟩)
    refine RE.done (by kernel_rfl) ?_
    refine Bl.n ?_
    refine Th.n ?_
    have hst := hst.take (.there (.there (.there (.there .here))))
    have hst := hst.take (.there (.there (.there (.there .here))))
    have hst := hst.take (.there (.there (.there (.there .here))))
    have hst := hst.take (.there (.there (.there (.there .here))))
    have hst := (hst.take (.there (.there (.there (.there .here))))).drop
    exact ⟨k12, Nat.lt_succ_self _, t18, X19, c20, r23, (fun w H s => (hS_X19 _ _ s)), (by first | omega | (simp; done) | (simp; omega)), hl_q30_0, hF, tp, up rfl (u0 (up rfl (up rfl (up rfl (up rfl (up rfl (up rfl (up rfl (up rfl hs2))))))))), up rfl (u0 (up rfl (up rfl (up rfl (up rfl (up rfl (up rfl (up rfl (up rfl hs4))))))))), up rfl (u0 (up rfl (up rfl (up rfl (up rfl (up rfl (up rfl (up rfl (up rfl hs5))))))))), hst⟩
  · have hF := cf hc13 hF
    have hc13_ := hc13
    try simp only [decide_eq_false_iff_not, Int.not_lt, Int.not_le, gt_iff_lt, ge_iff_le] at hc13_
    refine CW.exit ?_
    refine Th.x ?_
    refine Th.x ?_
    refine Bl.x ?_
    refine Th.n ?_
    refine CW.seq ?_
    refine CW.region ?_
    refine RW.soft Wd.a (v := .agg ((m10.map bu8)).toArray) (by exact E.loadN (b := b3) (o := 0) (cs := (m10.map bu8)) Try.underlying119 rfl sz119 (AF_ev rfl hs5) ((List.length_map _).trans hl_m10) (St.cellsOf hst .here allF)) ?_
    refine RW.hard Wd.a ?_
    refine H.storeL (b := b2) (o := 0) (m := 16) (v := .agg ((m10.map bu8)).toArray) (ys := (m10.map bu8)) (L' := (m10.map bu8)) (AF_ev rfl (up rfl hs4)) (AF_ev rfl tp) hst (.there .here) sz119 rfl ((List.length_map _).trans hl_m10) (ones_map (fun _ => rfl)) (putW (Eq.trans (show (m10.map bu8).length = 16 from ((List.length_map _).trans hl_m10)) (Eq.symm (show ((List.replicate 16 0#8).map bu8).length = 16 from ((List.length_map _).trans (List.length_replicate)))))) fun w hst => ?_
    refine RW.fin (fun τ => τ 1 = .slice X8 s7.length c9 ∧ τ 2 = .pointer (some ⟨b1, 0, none⟩) ∧ τ 4 = .pointer (some ⟨b2, 0, none⟩) ∧ τ 5 = .pointer (some ⟨b3, 0, none⟩) ∧ τ 10 = .bool false) ⟨u0 (up rfl hs1), u0 (up rfl hs2), u0 (up rfl hs4), u0 (up rfl hs5), u0 (up rfl (Eq.trans hs10 (congrArg Value.bool hc13)))⟩ ?_
    rintro τ ⟨hs1, hs2, hs4, hs5, hs10⟩
    refine CW.ret ?_
    refine ret1 (v := .agg ((m10.map bu8)).toArray) rfl (by exact (.cell (AF_ev rfl hs4) (hst.blockAt (.there .here)) Try.underlying119 rfl (by rw [List.size_toArray, show ((m10.map bu8)).length = 16 from ((List.length_map _).trans hl_m10)]; exact sz119) .nil)) ?_
    have hst := hst.take (.there (.there (.there .here)))
    have hst := (hst.take (.there .here)).drop
    have hst := (hst.take (.there .here)).drop
    have hst := (hst.take (.there .here)).drop
    rw [somE hF]
    exact ⟨rfl, hl_m10, hst⟩

def Counter (n : List (BitVec 8)) (c : BitVec 32) : Option (List (BitVec 8)) :=
  lt_ (ov (List.replicate 16 0#8) 0 (n.take 16)) fun m4 =>
  lt_ (m4.set 12 ((c >>> 24).setWidth 8)) fun m5 =>
  lt_ (m5.set 13 ((c >>> 16).setWidth 8)) fun m6 =>
  lt_ (m6.set 14 ((c >>> 8).setWidth 8)) fun m7 =>
  lt_ (m7.set 15 (c.setWidth 8)) fun m8 =>
  some (m8)
theorem Counter_C {p : Pers} {w : World} {R : List Assn}  (n : List (BitVec 8)) (hl_n : n.length = 12) (c : BitVec 32) (r : List (BitVec 8)) (hF : Counter n c = some r) (hst : St p w (R)) :
    Calls Try.prog 85 #[.agg ((n.map bu8)).toArray, .int .u32 ((c).toNat : Int)] w fun e w => e = .returned (.agg ((r.map bu8)).toArray) ∧ r.length = 16 ∧ St p w (R) := by
  unfold Counter at hF
  refine enter Try.func85 rfl (by simp) (n := 25) rfl fun τ hτ => ?_
  have hs0 : τ 0 = .agg ((n.map bu8)).toArray := hτ 0 (by simp)
  have hs1 : τ 1 = .int .u32 ((c).toNat : Int) := hτ 1 (by simp)
  clear hτ
  refine CW.seq ?_
  refine CW.region ?_
  refine RW.hard Wd.a ?_
  refine H.box (v := .agg ((n.map bu8)).toArray) (AF_ev rfl hs0) hst fun b1 w hst => ?_
  refine RW.hard Wd.a ?_
  refine H.alloc zs119 hst fun b2 w hst => ?_
  refine RW.fin (fun τ => τ 0 = .agg ((n.map bu8)).toArray ∧ τ 1 = .int .u32 ((c).toNat : Int) ∧ τ 2 = .pointer (some ⟨b1, 0, none⟩) ∧ τ 4 = .pointer (some ⟨b2, 0, none⟩)) ⟨up rfl (up rfl hs0), up rfl (up rfl hs1), up rfl tp, tp⟩ ?_
  rintro τ ⟨hs0, hs1, hs2, hs4⟩
  refine CW.seq ?_
  refine CW.region ?_
  refine RW.hard Wd.a ?_
  refine H.alloc zs119 hst fun b3 w hst => ?_
  refine RW.fin (fun τ => τ 0 = .agg ((n.map bu8)).toArray ∧ τ 1 = .int .u32 ((c).toNat : Int) ∧ τ 2 = .pointer (some ⟨b1, 0, none⟩) ∧ τ 4 = .pointer (some ⟨b2, 0, none⟩) ∧ τ 5 = .pointer (some ⟨b3, 0, none⟩)) ⟨up rfl hs0, up rfl hs1, up rfl hs2, up rfl hs4, tp⟩ ?_
  rintro τ ⟨hs0, hs1, hs2, hs4, hs5⟩
  refine CW.seq ?_
  obtain ⟨m4, h_m4, hF⟩ := lp hF
  have hl_m4 : m4.length = 16 := by rw [h_m4]; exact ov_len (List.length_replicate) (by rw [List.length_take]; omega)
  refine CW.regionE [] (fun w => True) mixed ?_
  have hst := hst.drew
  generalize w.drew = w at hst ⊢
  have hS : True := trivial
  refine RE.takeF 0 rfl (by kernel_rfl) Wd.a (v := .slice (some ⟨b3, 0, none⟩) 16 16) (fun w => by exact E.v (run_sliceArr (b := b3) (o := 0) (N := 16) (i := 0) (j := 16) Try.underlying119 sz5 _ (AF_ev rfl hs5) rfl rfl (by omega) (by omega)) (by first | rfl | simp)) ?_
  refine RE.takeF 1 rfl (by kernel_rfl) Wd.a (v := .slice (some ⟨b1, 0, none⟩) 12 12) (fun w => by exact E.v (run_sliceArr (b := b1) (o := 0) (N := 12) (i := 0) (j := 12) Try.underlying24 sz5 _ (AF_ev rfl (up rfl hs2)) rfl rfl (by omega) (by omega)) (by first | rfl | simp)) ?_
  refine RE.only 2 rfl (by kernel_rfl) Wd.a ?_
  refine H.copyL (b := b3) (o := 0) (dLen := 16) (dCap := 16) (m := 12) (L' := (m4.map bu8)) (src := (n.map bu8)) Try.underlying25 sz5 (AF_ev rfl (up rfl tp)) (AF_ev rfl tp) hst .here (Src.ofL (hst.take (.there (.there .here))) ((List.length_map _).trans hl_n) (by first | omega | (simp; done)) allF) (ones_map (fun _ => rfl)) (by rw [show (((List.replicate 16 0#8).map bu8)).length = 16 from ((List.length_map _).trans (List.length_replicate))]; omega) (by rw [h_m4, ← List.map_take]; exact putA (by rw [List.length_take, (List.length_replicate)]; omega)) fun w hst => ?_
  refine ⟨fun h => Bool.noConfusion ((show needs _ _ _ = false by kernel_rfl).symm.trans h), ?_⟩
  refine RE.fin (by kernel_rfl) (fun τ => τ 0 = .agg ((n.map bu8)).toArray ∧ τ 1 = .int .u32 ((c).toNat : Int) ∧ τ 2 = .pointer (some ⟨b1, 0, none⟩) ∧ τ 4 = .pointer (some ⟨b2, 0, none⟩) ∧ τ 5 = .pointer (some ⟨b3, 0, none⟩)) ⟨up rfl (up rfl (up rfl hs0)), up rfl (up rfl (up rfl hs1)), up rfl (up rfl (up rfl hs2)), up rfl (up rfl (up rfl hs4)), up rfl (up rfl (up rfl hs5))⟩ ?_
  rintro τ ⟨hs0, hs1, hs2, hs4, hs5⟩
  refine CW.seq ?_
  refine CW.region ?_
  refine RW.soft Wd.a (v := .int .u32 ((c).toNat : Int)) (by exact E.move (AF_ev rfl hs1)) ?_
  refine RW.soft Wd.a (v := .int .u32 ((c >>> 24).toNat : Int)) (by exact E.ushr (a := c) (j := 24) UK.u32 (AF_ev rfl tp) rfl rfl) ?_
  refine RW.soft Wd.a (v := .int .u8 (((c >>> 24).setWidth 8).toNat : Int)) (by exact E.cvUU (a := c >>> 24) (by rw [Try.underlying117]; rfl) Try.underlying5 UK.u8 (AF_ev rfl tp)) ?_
  refine RW.soft Wd.a (v := .int .u32 ((c).toNat : Int)) (by exact E.move (AF_ev rfl (up rfl (up rfl (up rfl hs1))))) ?_
  refine RW.soft Wd.a (v := .int .u32 ((c >>> 16).toNat : Int)) (by exact E.ushr (a := c) (j := 16) UK.u32 (AF_ev rfl tp) rfl rfl) ?_
  refine RW.soft Wd.a (v := .int .u8 (((c >>> 16).setWidth 8).toNat : Int)) (by exact E.cvUU (a := c >>> 16) (by rw [Try.underlying117]; rfl) Try.underlying5 UK.u8 (AF_ev rfl tp)) ?_
  refine RW.soft Wd.a (v := .int .u32 ((c).toNat : Int)) (by exact E.move (AF_ev rfl (up rfl (up rfl (up rfl (up rfl (up rfl (up rfl hs1)))))))) ?_
  refine RW.soft Wd.a (v := .int .u32 ((c >>> 8).toNat : Int)) (by exact E.ushr (a := c) (j := 8) UK.u32 (AF_ev rfl tp) rfl rfl) ?_
  refine RW.soft Wd.a (v := .int .u8 (((c >>> 8).setWidth 8).toNat : Int)) (by exact E.cvUU (a := c >>> 8) (by rw [Try.underlying117]; rfl) Try.underlying5 UK.u8 (AF_ev rfl tp)) ?_
  refine RW.soft Wd.a (v := .int .u32 ((c).toNat : Int)) (by exact E.move (AF_ev rfl (up rfl (up rfl (up rfl (up rfl (up rfl (up rfl (up rfl (up rfl (up rfl hs1))))))))))) ?_
  refine RW.soft Wd.a (v := .int .u8 ((c.setWidth 8).toNat : Int)) (by exact E.cvUU (a := c) (by rw [Try.underlying117]; rfl) Try.underlying5 UK.u8 (AF_ev rfl tp)) ?_
  refine RW.soft Wd.a (v := .pointer (some ⟨b3, 12, none⟩)) (by exact E.indexAddrA (b := b3) (o := 0) (i := 12) Try.underlying119 sz5 (AF_ev rfl (up rfl (up rfl (up rfl (up rfl (up rfl (up rfl (up rfl (up rfl (up rfl (up rfl (up rfl hs5)))))))))))) rfl (by omega) (by omega) (by omega)) ?_
  obtain ⟨m5, h_m5, hF⟩ := lp hF
  have hl_m5 : m5.length = 16 := by rw [h_m5, List.length_set]; exact hl_m4
  refine RW.hard Wd.a ?_
  refine H.storeL (b := b3) (o := 12) (m := 1) (v := .int .u8 (((c >>> 24).setWidth 8).toNat : Int)) (ys := [bu8 ((c >>> 24).setWidth 8)]) (L' := (m5.map bu8)) (AF_ev rfl tp) (AF_ev rfl (up rfl (up rfl (up rfl (up rfl (up rfl (up rfl (up rfl (up rfl (up rfl tp)))))))))) hst .here sz5 rfl rfl (ones1 rfl) (by rw [h_m5]; exact putF (by rw [hl_m4]; omega)) fun w hst => ?_
  refine RW.soft Wd.a (v := .pointer (some ⟨b3, 13, none⟩)) (by exact E.indexAddrA (b := b3) (o := 0) (i := 13) Try.underlying119 sz5 (AF_ev rfl (u0 (up rfl (up rfl (up rfl (up rfl (up rfl (up rfl (up rfl (up rfl (up rfl (up rfl (up rfl (up rfl hs5)))))))))))))) rfl (by omega) (by omega) (by omega)) ?_
  obtain ⟨m6, h_m6, hF⟩ := lp hF
  have hl_m6 : m6.length = 16 := by rw [h_m6, List.length_set]; exact hl_m5
  refine RW.hard Wd.a ?_
  refine H.storeL (b := b3) (o := 13) (m := 1) (v := .int .u8 (((c >>> 16).setWidth 8).toNat : Int)) (ys := [bu8 ((c >>> 16).setWidth 8)]) (L' := (m6.map bu8)) (AF_ev rfl tp) (AF_ev rfl (up rfl (u0 (up rfl (up rfl (up rfl (up rfl (up rfl (up rfl tp))))))))) hst .here sz5 rfl rfl (ones1 rfl) (by rw [h_m6]; exact putF (by rw [hl_m5]; omega)) fun w hst => ?_
  refine RW.soft Wd.a (v := .pointer (some ⟨b3, 14, none⟩)) (by exact E.indexAddrA (b := b3) (o := 0) (i := 14) Try.underlying119 sz5 (AF_ev rfl (u0 (up rfl (u0 (up rfl (up rfl (up rfl (up rfl (up rfl (up rfl (up rfl (up rfl (up rfl (up rfl (up rfl (up rfl hs5)))))))))))))))) rfl (by omega) (by omega) (by omega)) ?_
  obtain ⟨m7, h_m7, hF⟩ := lp hF
  have hl_m7 : m7.length = 16 := by rw [h_m7, List.length_set]; exact hl_m6
  refine RW.hard Wd.a ?_
  refine H.storeL (b := b3) (o := 14) (m := 1) (v := .int .u8 (((c >>> 8).setWidth 8).toNat : Int)) (ys := [bu8 ((c >>> 8).setWidth 8)]) (L' := (m7.map bu8)) (AF_ev rfl tp) (AF_ev rfl (up rfl (u0 (up rfl (u0 (up rfl (up rfl (up rfl tp)))))))) hst .here sz5 rfl rfl (ones1 rfl) (by rw [h_m7]; exact putF (by rw [hl_m6]; omega)) fun w hst => ?_
  refine RW.soft Wd.a (v := .pointer (some ⟨b3, 15, none⟩)) (by exact E.indexAddrA (b := b3) (o := 0) (i := 15) Try.underlying119 sz5 (AF_ev rfl (u0 (up rfl (u0 (up rfl (u0 (up rfl (up rfl (up rfl (up rfl (up rfl (up rfl (up rfl (up rfl (up rfl (up rfl (up rfl (up rfl hs5)))))))))))))))))) rfl (by omega) (by omega) (by omega)) ?_
  obtain ⟨m8, h_m8, hF⟩ := lp hF
  have hl_m8 : m8.length = 16 := by rw [h_m8, List.length_set]; exact hl_m7
  refine RW.hard Wd.a ?_
  refine H.storeL (b := b3) (o := 15) (m := 1) (v := .int .u8 ((c.setWidth 8).toNat : Int)) (ys := [bu8 (c.setWidth 8)]) (L' := (m8.map bu8)) (AF_ev rfl tp) (AF_ev rfl (up rfl (u0 (up rfl (u0 (up rfl (u0 (up rfl tp)))))))) hst .here sz5 rfl rfl (ones1 rfl) (by rw [h_m8]; exact putF (by rw [hl_m7]; omega)) fun w hst => ?_
  refine RW.fin (fun τ => τ 0 = .agg ((n.map bu8)).toArray ∧ τ 1 = .int .u32 ((c).toNat : Int) ∧ τ 2 = .pointer (some ⟨b1, 0, none⟩) ∧ τ 4 = .pointer (some ⟨b2, 0, none⟩) ∧ τ 5 = .pointer (some ⟨b3, 0, none⟩)) ⟨u0 (up rfl (u0 (up rfl (u0 (up rfl (u0 (up rfl (up rfl (up rfl (up rfl (up rfl (up rfl (up rfl (up rfl (up rfl (up rfl (up rfl (up rfl hs0)))))))))))))))))), u0 (up rfl (u0 (up rfl (u0 (up rfl (u0 (up rfl (up rfl (up rfl (up rfl (up rfl (up rfl (up rfl (up rfl (up rfl (up rfl (up rfl (up rfl hs1)))))))))))))))))), u0 (up rfl (u0 (up rfl (u0 (up rfl (u0 (up rfl (up rfl (up rfl (up rfl (up rfl (up rfl (up rfl (up rfl (up rfl (up rfl (up rfl (up rfl hs2)))))))))))))))))), u0 (up rfl (u0 (up rfl (u0 (up rfl (u0 (up rfl (up rfl (up rfl (up rfl (up rfl (up rfl (up rfl (up rfl (up rfl (up rfl (up rfl (up rfl hs4)))))))))))))))))), u0 (up rfl (u0 (up rfl (u0 (up rfl (u0 (up rfl (up rfl (up rfl (up rfl (up rfl (up rfl (up rfl (up rfl (up rfl (up rfl (up rfl (up rfl hs5))))))))))))))))))⟩ ?_
  rintro τ ⟨hs0, hs1, hs2, hs4, hs5⟩
  refine CW.seq ?_
  refine CW.region ?_
  refine RW.soft Wd.a (v := .agg ((m8.map bu8)).toArray) (by exact E.loadN (b := b3) (o := 0) (cs := (m8.map bu8)) Try.underlying119 rfl sz119 (AF_ev rfl hs5) ((List.length_map _).trans hl_m8) (St.cellsOf hst .here allF)) ?_
  refine RW.hard Wd.a ?_
  refine H.storeL (b := b2) (o := 0) (m := 16) (v := .agg ((m8.map bu8)).toArray) (ys := (m8.map bu8)) (L' := (m8.map bu8)) (AF_ev rfl (up rfl hs4)) (AF_ev rfl tp) hst (.there .here) sz119 rfl ((List.length_map _).trans hl_m8) (ones_map (fun _ => rfl)) (putW (Eq.trans (show (m8.map bu8).length = 16 from ((List.length_map _).trans hl_m8)) (Eq.symm (show ((List.replicate 16 0#8).map bu8).length = 16 from ((List.length_map _).trans (List.length_replicate)))))) fun w hst => ?_
  refine RW.fin (fun τ => τ 0 = .agg ((n.map bu8)).toArray ∧ τ 1 = .int .u32 ((c).toNat : Int) ∧ τ 2 = .pointer (some ⟨b1, 0, none⟩) ∧ τ 4 = .pointer (some ⟨b2, 0, none⟩) ∧ τ 5 = .pointer (some ⟨b3, 0, none⟩)) ⟨u0 (up rfl hs0), u0 (up rfl hs1), u0 (up rfl hs2), u0 (up rfl hs4), u0 (up rfl hs5)⟩ ?_
  rintro τ ⟨hs0, hs1, hs2, hs4, hs5⟩
  refine CW.ret ?_
  refine ret1 (v := .agg ((m8.map bu8)).toArray) rfl (by exact (.cell (AF_ev rfl hs4) (hst.blockAt (.there .here)) Try.underlying119 rfl (by rw [List.size_toArray, show ((m8.map bu8)).length = 16 from ((List.length_map _).trans hl_m8)]; exact sz119) .nil)) ?_
  have hst := (hst.take .here).drop
  have hst := (hst.take .here).drop
  have hst := (hst.take .here).drop
  rw [somE hF]
  exact ⟨rfl, hl_m8, hst⟩

def Encr_l1 (k : List (BitVec 8))  : Nat → Nat → List (BitVec 8) → Option (List (BitVec 8) × List (BitVec 8))
  | 0, _, _ => none
  | k12 + 1, i9, m10 =>
    bif decide (((i9 : Nat) : Int) < 15) then
      lt_ (sl (i9 * 16) 16 k) fun a14 =>
      (Round m10 a14 (((i9 : Nat) : Int) == 14)).bind fun r15 =>
      Encr_l1 k k12 (i9 + 1) r15
    else
      some (m10, k)
theorem Encr_l1_pos {k : List (BitVec 8)}  {fu_ : Nat} {i9 : Nat} {m10 : List (BitVec 8)} {r : List (BitVec 8) × List (BitVec 8)} (h : Encr_l1 k fu_ i9 m10 = some r) : ∃ j, fu_ = j + 1 := by
  cases fu_ with
  | zero => cases (show (none : Option (List (BitVec 8) × List (BitVec 8))) = some r from h)
  | succ j => exact ⟨j, rfl⟩
def Encr (k : List (BitVec 8)) (b : List (BitVec 8)) : Option (List (BitVec 8) × List (BitVec 8)) :=
  lt_ (sl 0 16 k) fun a3 =>
  (BXor b a3).bind fun r4 =>
  Encr_l1 k 1099511627776 1 r4
theorem Encr_C {p : Pers} {w : World} {R : List Assn}  {b_k : Nat} (k : List (BitVec 8)) (hl_k : k.length = 240) (b : List (BitVec 8)) (hl_b : b.length = 16) (r : List (BitVec 8) × List (BitVec 8)) (hF : Encr k b = some r) (hst : St p w (pt b_k (.cells ((k.map bu8)).toArray 141) :: R)) :
    Calls Try.prog 87 #[.pointer (some ⟨b_k, 0, none⟩), .agg ((b.map bu8)).toArray] w fun e w => e = .returned (.agg ((r.1.map bu8)).toArray) ∧ r.1.length = 16 ∧ r.2.length = 240 ∧ St p w (pt b_k (.cells ((r.2.map bu8)).toArray 141) :: R) := by
  unfold Encr at hF
  refine enter Try.func87 rfl (by simp) (n := 26) rfl fun τ hτ => ?_
  have hs0 : τ 0 = .pointer (some ⟨b_k, 0, none⟩) := hτ 0 (by simp)
  have hs1 : τ 1 = .agg ((b.map bu8)).toArray := hτ 1 (by simp)
  clear hτ
  refine CW.seq ?_
  refine CW.region ?_
  refine RW.hard Wd.a ?_
  refine H.box (v := .agg ((b.map bu8)).toArray) (AF_ev rfl hs1) hst fun b1 w hst => ?_
  refine RW.hard Wd.a ?_
  refine H.alloc zs119 hst fun b2 w hst => ?_
  refine RW.fin (fun τ => τ 0 = .pointer (some ⟨b_k, 0, none⟩) ∧ τ 1 = .agg ((b.map bu8)).toArray ∧ τ 3 = .pointer (some ⟨b1, 0, none⟩) ∧ τ 4 = .pointer (some ⟨b2, 0, none⟩)) ⟨up rfl (up rfl hs0), up rfl (up rfl hs1), up rfl tp, tp⟩ ?_
  rintro τ ⟨hs0, hs1, hs3, hs4⟩
  refine CW.seq ?_
  obtain ⟨a3, h_a3, hF⟩ := lp hF
  have hl_a3 : a3.length = 16 := by rw [h_a3]; exact sl_len hl_k (by omega)
  obtain ⟨r4, h_r4, hF⟩ := bd hF
  refine CW.regionE [0, 4] (fun w => (∀ j_ v_, ((b.map bu8) : List Value)[j_]? = some v_ → w.cell? ⟨b1, 0 + j_, none⟩ = some v_) ∧ (∀ j_ v_, ((a3.map bu8) : List Value)[j_]? = some v_ → w.cell? ⟨b_k, 0 + j_, none⟩ = some v_)) mixed ?_
  have hst := hst.drew
  generalize w.drew = w at hst ⊢
  have hS : (∀ j_ v_, ((b.map bu8) : List Value)[j_]? = some v_ → w.cell? ⟨b1, 0 + j_, none⟩ = some v_) ∧ (∀ j_ v_, ((a3.map bu8) : List Value)[j_]? = some v_ → w.cell? ⟨b_k, 0 + j_, none⟩ = some v_) := ⟨(St.cellsOf hst (.there .here) allF), (St.cellsOf hst (.there (.there .here)) (by rw [h_a3]; exact subF))⟩
  refine RE.take 0 rfl (by kernel_rfl) Wd.a (v := .agg ((b.map bu8)).toArray) (fun w hS => by exact E.loadN (b := b1) (o := 0) (cs := (b.map bu8)) Try.underlying119 rfl sz119 (AF_ev rfl hs3) ((List.length_map _).trans hl_b) hS.1) hS ?_
  refine RE.takeF 1 rfl (by kernel_rfl) Wd.a (v := .pointer (some ⟨b_k, 0, none⟩)) (fun w => by exact E.move (AF_ev rfl (up rfl hs0))) ?_
  refine RE.takeF 2 rfl (by kernel_rfl) Wd.a (v := .pointer (some ⟨b_k, 0, none⟩)) (fun w => by exact E.nilCheck (a := ⟨b_k, 0, none⟩) (AF_ev rfl tp)) ?_
  refine RE.takeF 3 rfl (by kernel_rfl) Wd.a (v := .pointer (some ⟨b_k, 0, none⟩)) (fun w => by exact E.indexAddrA (b := b_k) (o := 0) (i := 0) Try.underlying141 sz119 (AF_ev rfl tp) rfl (by omega) (by omega) (by omega)) ?_
  refine RE.take 4 rfl (by kernel_rfl) Wd.a (v := .agg ((a3.map bu8)).toArray) (fun w hS => by exact E.loadN (b := b_k) (o := 0) (cs := (a3.map bu8)) Try.underlying119 rfl sz119 (AF_ev rfl tp) ((List.length_map _).trans hl_a3) hS.2) hS ?_
  refine RE.only 5 rfl (by kernel_rfl) Wd.a ?_
  refine H.call0 Try.func89 nm89 rfl (map2 (AF_ev rfl (up rfl (up rfl (up rfl (up rfl tp))))) (AF_ev rfl tp)) (Calls.mono (BXor_C b hl_b a3 hl_a3 r4 h_r4 hst) ?_)
  rintro _ w ⟨rfl, hl_q7_0, hst⟩
  refine ⟨_, rfl, ?_⟩
  refine ⟨fun h => Bool.noConfusion ((show needs _ _ _ = false by kernel_rfl).symm.trans h), ?_⟩
  refine RE.only 6 rfl (by kernel_rfl) Wd.a ?_
  refine H.storeL (b := b1) (o := 0) (m := 16) (v := .agg ((r4.map bu8)).toArray) (ys := (r4.map bu8)) (L' := (r4.map bu8)) (AF_ev rfl (up rfl (up rfl (up rfl (up rfl (up rfl (up rfl hs3))))))) (AF_ev rfl tp) hst (.there .here) sz119 rfl ((List.length_map _).trans hl_q7_0) (ones_map (fun _ => rfl)) (putW (Eq.trans (show (r4.map bu8).length = 16 from ((List.length_map _).trans hl_q7_0)) (Eq.symm (show (b.map bu8).length = 16 from ((List.length_map _).trans hl_b))))) fun w hst => ?_
  refine ⟨fun h => Bool.noConfusion ((show needs _ _ _ = false by kernel_rfl).symm.trans h), ?_⟩
  refine RE.fin (by kernel_rfl) (fun τ => τ 0 = .pointer (some ⟨b_k, 0, none⟩) ∧ τ 1 = .agg ((b.map bu8)).toArray ∧ τ 3 = .pointer (some ⟨b1, 0, none⟩) ∧ τ 4 = .pointer (some ⟨b2, 0, none⟩)) ⟨u0 (up rfl (up rfl (up rfl (up rfl (up rfl (up rfl hs0)))))), u0 (up rfl (up rfl (up rfl (up rfl (up rfl (up rfl hs1)))))), u0 (up rfl (up rfl (up rfl (up rfl (up rfl (up rfl hs3)))))), u0 (up rfl (up rfl (up rfl (up rfl (up rfl (up rfl hs4))))))⟩ ?_
  rintro τ ⟨hs0, hs1, hs3, hs4⟩
  refine CW.seq ?_
  refine CW.seq ?_
  refine CW.region ?_
  refine RW.soft Wd.a (v := .int .i64 1) (by exact E.assign rfl) ?_
  refine RW.fin (fun τ => τ 0 = .pointer (some ⟨b_k, 0, none⟩) ∧ τ 1 = .agg ((b.map bu8)).toArray ∧ τ 3 = .pointer (some ⟨b1, 0, none⟩) ∧ τ 4 = .pointer (some ⟨b2, 0, none⟩) ∧ τ 5 = .int .i64 1) ⟨up rfl hs0, up rfl hs1, up rfl hs3, up rfl hs4, tp⟩ ?_
  rintro τ ⟨hs0, hs1, hs3, hs4, hs5⟩
  refine CW.block ?_
  refine CW.loop (fun (k11 : Nat) (τ : Fr) (w : World) => ∃ (i9 : Nat) (m10 : List (BitVec 8)), m10.length = 16 ∧ Encr_l1 k k11 i9 m10 = some r ∧ τ 5 = .int .i64 ((i9 : Nat) : Int) ∧ τ 0 = .pointer (some ⟨b_k, 0, none⟩) ∧ τ 3 = .pointer (some ⟨b1, 0, none⟩) ∧ τ 4 = .pointer (some ⟨b2, 0, none⟩) ∧ St p w (pt b2 (.cells (((List.replicate 16 0#8).map bu8)).toArray 119) :: pt b1 (.cells ((m10.map bu8)).toArray 119) :: pt b_k (.cells ((k.map bu8)).toArray 141) :: R)) 1099511627776 ?_ ?_
  · skip
    have hst := hst.take (.there (.there .here))
    have hst := hst.take (.there (.there .here))
    have hst := hst.take (.there (.there .here))
    exact ⟨1, r4, hl_q7_0, hF, (int_eq (a := 1) hs5 (by omega)), hs0, hs3, hs4, hst⟩
  clear hst hF
  rintro k11 τ w ⟨i9, m10, hl_m10, hF, hs5, hs0, hs3, hs4, hst⟩
  obtain ⟨k12, rfl⟩ := Encr_l1_pos hF
  rw [Encr_l1] at hF
  refine CW.seq ?_
  refine CW.seq ?_
  refine CW.region ?_
  refine RW.soft Wd.a (v := .int .i64 ((i9 : Nat) : Int)) (by exact E.move (AF_ev rfl hs5)) ?_
  refine RW.soft Wd.a (v := .bool (decide (((i9 : Nat) : Int) < 15))) (by exact E.lss (k := .i64) (a := ((i9 : Nat) : Int)) (b := 15) (AF_ev rfl tp) rfl) ?_
  refine RW.fin (fun τ => τ 0 = .pointer (some ⟨b_k, 0, none⟩) ∧ τ 3 = .pointer (some ⟨b1, 0, none⟩) ∧ τ 4 = .pointer (some ⟨b2, 0, none⟩) ∧ τ 5 = .int .i64 ((i9 : Nat) : Int) ∧ τ 13 = .bool (decide (((i9 : Nat) : Int) < 15))) ⟨up rfl (up rfl hs0), up rfl (up rfl hs3), up rfl (up rfl hs4), up rfl (up rfl hs5), tp⟩ ?_
  rintro τ ⟨hs0, hs3, hs4, hs5, hs13⟩
  refine CW.cond (AF_ev rfl hs13) (fun hc13 => ?_) (fun hc13 => ?_)
  · have hF := ct hc13 hF
    have hc13_ := hc13
    try simp only [decide_eq_true_eq] at hc13_
    refine CW.skip ?_
    refine Th.n ?_
    refine CW.seq ?_
    refine CW.block ?_
    obtain ⟨a14, h_a14, hF⟩ := lp hF
    have hl_a14 : a14.length = 16 := by rw [h_a14]; exact sl_len hl_k (by omega)
    obtain ⟨r15, h_r15, hF⟩ := bd hF
    refine CW.regionE [0, 5] (fun w => (∀ j_ v_, ((m10.map bu8) : List Value)[j_]? = some v_ → w.cell? ⟨b1, 0 + j_, none⟩ = some v_) ∧ (∀ j_ v_, ((a14.map bu8) : List Value)[j_]? = some v_ → w.cell? ⟨b_k, i9 * 16 + j_, none⟩ = some v_)) mixed ?_
    have hst := hst.drew
    generalize w.drew = w at hst ⊢
    have hS : (∀ j_ v_, ((m10.map bu8) : List Value)[j_]? = some v_ → w.cell? ⟨b1, 0 + j_, none⟩ = some v_) ∧ (∀ j_ v_, ((a14.map bu8) : List Value)[j_]? = some v_ → w.cell? ⟨b_k, i9 * 16 + j_, none⟩ = some v_) := ⟨(St.cellsOf hst (.there .here) allF), (St.cellsOf hst (.there (.there .here)) (by rw [h_a14]; exact subF))⟩
    refine RE.take 0 rfl (by kernel_rfl) Wd.a (v := .agg ((m10.map bu8)).toArray) (fun w hS => by exact E.loadN (b := b1) (o := 0) (cs := (m10.map bu8)) Try.underlying119 rfl sz119 (AF_ev rfl hs3) ((List.length_map _).trans hl_m10) hS.1) hS ?_
    refine RE.takeF 1 rfl (by kernel_rfl) Wd.a (v := .pointer (some ⟨b_k, 0, none⟩)) (fun w => by exact E.move (AF_ev rfl (up rfl hs0))) ?_
    refine RE.takeF 2 rfl (by kernel_rfl) Wd.a (v := .int .i64 ((i9 : Nat) : Int)) (fun w => by exact E.move (AF_ev rfl (up rfl (up rfl hs5)))) ?_
    refine RE.takeF 3 rfl (by kernel_rfl) Wd.a (v := .pointer (some ⟨b_k, 0, none⟩)) (fun w => by exact E.nilCheck (a := ⟨b_k, 0, none⟩) (AF_ev rfl (up rfl tp))) ?_
    refine RE.takeF 4 rfl (by kernel_rfl) Wd.a (v := .pointer (some ⟨b_k, i9 * 16, none⟩)) (fun w => by exact E.indexAddrA (b := b_k) (o := 0) (i := ((i9 : Nat) : Int)) Try.underlying141 sz119 (AF_ev rfl tp) (AF_ev rfl (up rfl tp)) (by omega) (by omega) (by omega)) ?_
    refine RE.take 5 rfl (by kernel_rfl) Wd.a (v := .agg ((a14.map bu8)).toArray) (fun w hS => by exact E.loadN (b := b_k) (o := i9 * 16) (cs := (a14.map bu8)) Try.underlying119 rfl sz119 (AF_ev rfl tp) ((List.length_map _).trans hl_a14) hS.2) hS ?_
    refine RE.takeF 6 rfl (by kernel_rfl) Wd.a (v := .int .i64 ((i9 : Nat) : Int)) (fun w => by exact E.move (AF_ev rfl (up rfl (up rfl (up rfl (up rfl (up rfl (up rfl hs5)))))))) ?_
    refine RE.takeF 7 rfl (by kernel_rfl) Wd.a (v := .bool (((i9 : Nat) : Int) == 14)) (fun w => by exact E.eql (k := .i64) (a := ((i9 : Nat) : Int)) (b := 14) (AF_ev rfl tp) rfl) ?_
    refine RE.only 8 rfl (by kernel_rfl) Wd.a ?_
    refine H.call0 Try.func105 nm105 rfl (map3 (AF_ev rfl (up rfl (up rfl (up rfl (up rfl (up rfl (up rfl (up rfl tp)))))))) (AF_ev rfl (up rfl (up rfl tp))) (AF_ev rfl tp)) (Calls.mono (Round_C m10 hl_m10 a14 hl_a14 (((i9 : Nat) : Int) == 14) r15 h_r15 hst) ?_)
    rintro _ w ⟨rfl, hl_q18_0, hst⟩
    refine ⟨_, rfl, ?_⟩
    refine ⟨fun h => Bool.noConfusion ((show needs _ _ _ = false by kernel_rfl).symm.trans h), ?_⟩
    refine RE.only 9 rfl (by kernel_rfl) Wd.a ?_
    refine H.storeL (b := b1) (o := 0) (m := 16) (v := .agg ((r15.map bu8)).toArray) (ys := (r15.map bu8)) (L' := (r15.map bu8)) (AF_ev rfl (up rfl (up rfl (up rfl (up rfl (up rfl (up rfl (up rfl (up rfl (up rfl hs3)))))))))) (AF_ev rfl tp) hst (.there .here) sz119 rfl ((List.length_map _).trans hl_q18_0) (ones_map (fun _ => rfl)) (putW (Eq.trans (show (r15.map bu8).length = 16 from ((List.length_map _).trans hl_q18_0)) (Eq.symm (show (m10.map bu8).length = 16 from ((List.length_map _).trans hl_m10))))) fun w hst => ?_
    refine ⟨fun h => Bool.noConfusion ((show needs _ _ _ = false by kernel_rfl).symm.trans h), ?_⟩
    refine RE.done (by kernel_rfl) ?_
    refine Bl.n ?_
    refine Th.n ?_
    refine CW.region ?_
    refine RW.soft Wd.a (v := .int .i64 ((i9 : Nat) : Int)) (by exact E.move (AF_ev rfl (u0 (up rfl (up rfl (up rfl (up rfl (up rfl (up rfl (up rfl (up rfl (up rfl hs5)))))))))))) ?_
    refine RW.soft Wd.a (v := .int .i64 (((i9 : Nat) : Int) + 1)) (by exact E.add (k := .i64) (a := ((i9 : Nat) : Int)) (b := 1) (AF_ev rfl tp) rfl (show IntKind.i64.wrap (((i9 : Nat) : Int) + 1) = ((i9 : Nat) : Int) + 1 from (by rw [IntWalk.i64_in _ (by omega)]))) ?_
    refine RW.soft Wd.a (v := .int .i64 (((i9 : Nat) : Int) + 1)) (by exact E.assign (AF_ev rfl tp)) ?_
    refine RW.nil ?_
    refine Th.n ?_
    have hst := hst.take (.there (.there .here))
    have hst := hst.take (.there (.there .here))
    have hst := hst.take (.there (.there .here))
    exact ⟨k12, Nat.lt_succ_self _, (i9 + 1), r15, hl_q18_0, hF, (int_eq (a := ((i9 : Nat) : Int) + 1) tp (by omega)), up rfl (up rfl (up rfl (u0 (up rfl (up rfl (up rfl (up rfl (up rfl (up rfl (up rfl (up rfl (up rfl hs0)))))))))))), up rfl (up rfl (up rfl (u0 (up rfl (up rfl (up rfl (up rfl (up rfl (up rfl (up rfl (up rfl (up rfl hs3)))))))))))), up rfl (up rfl (up rfl (u0 (up rfl (up rfl (up rfl (up rfl (up rfl (up rfl (up rfl (up rfl (up rfl hs4)))))))))))), hst⟩
  · have hF := cf hc13 hF
    have hc13_ := hc13
    try simp only [decide_eq_false_iff_not, Int.not_lt, Int.not_le, gt_iff_lt, ge_iff_le] at hc13_
    refine CW.exit ?_
    refine Th.x ?_
    refine Th.x ?_
    refine Bl.x ?_
    refine Th.n ?_
    refine CW.seq ?_
    refine CW.region ?_
    refine RW.soft Wd.a (v := .agg ((m10.map bu8)).toArray) (by exact E.loadN (b := b1) (o := 0) (cs := (m10.map bu8)) Try.underlying119 rfl sz119 (AF_ev rfl hs3) ((List.length_map _).trans hl_m10) (St.cellsOf hst (.there .here) allF)) ?_
    refine RW.hard Wd.a ?_
    refine H.storeL (b := b2) (o := 0) (m := 16) (v := .agg ((m10.map bu8)).toArray) (ys := (m10.map bu8)) (L' := (m10.map bu8)) (AF_ev rfl (up rfl hs4)) (AF_ev rfl tp) hst .here sz119 rfl ((List.length_map _).trans hl_m10) (ones_map (fun _ => rfl)) (putW (Eq.trans (show (m10.map bu8).length = 16 from ((List.length_map _).trans hl_m10)) (Eq.symm (show ((List.replicate 16 0#8).map bu8).length = 16 from ((List.length_map _).trans (List.length_replicate)))))) fun w hst => ?_
    refine RW.fin (fun τ => τ 0 = .pointer (some ⟨b_k, 0, none⟩) ∧ τ 3 = .pointer (some ⟨b1, 0, none⟩) ∧ τ 4 = .pointer (some ⟨b2, 0, none⟩) ∧ τ 5 = .int .i64 ((i9 : Nat) : Int) ∧ τ 13 = .bool false) ⟨u0 (up rfl hs0), u0 (up rfl hs3), u0 (up rfl hs4), u0 (up rfl hs5), u0 (up rfl (Eq.trans hs13 (congrArg Value.bool hc13)))⟩ ?_
    rintro τ ⟨hs0, hs3, hs4, hs5, hs13⟩
    refine CW.ret ?_
    refine ret1 (v := .agg ((m10.map bu8)).toArray) rfl (by exact (.cell (AF_ev rfl hs4) (hst.blockAt .here) Try.underlying119 rfl (by rw [List.size_toArray, show ((m10.map bu8)).length = 16 from ((List.length_map _).trans hl_m10)]; exact sz119) .nil)) ?_
    have hst := hst.take (.there (.there .here))
    have hst := (hst.take (.there .here)).drop
    have hst := (hst.take (.there .here)).drop
    rw [somE hF]
    exact ⟨rfl, hl_m10, hl_k, hst⟩

def Pad (b : List (BitVec 8)) : Option (List (BitVec 8)) :=
  if b.length + ((16 - (((b.length : Nat) : Int) % 16)) % 16).toNat ≤ 1000000 then
    lt_ (b ++ List.replicate (((16 - (((b.length : Nat) : Int) % 16)) % 16).toNat) 0#8) fun s2 =>
    some (s2)
  else none
theorem Pad_C {p : Pers} {w : World} {R : List Assn}  {X_b : Option Addr} {c_b : Nat} (b : List (BitVec 8)) (hm_b : b.length ≤ 1000000) (r : List (BitVec 8)) (hF : Pad b = some r) (hst : St p w (SL.Own 5 1 (.slice X_b b.length c_b) b.length (b.map bu8) :: R)) :
    Calls Try.prog 88 #[.slice X_b b.length c_b] w fun e w => ∃ (X0 : Option Addr) (c0 : Nat), e = .returned (.slice X0 r.length c0) ∧ r.length ≤ 1000000 ∧ St p w (SL.Own 5 1 (.slice X0 r.length c0) r.length (r.map bu8) :: R) := by
  unfold Pad at hF
  refine enter Try.func88 rfl (by simp) (n := 10) rfl fun τ hτ => ?_
  have hs0 : τ 0 = .slice X_b b.length c_b := hτ 0 (by simp)
  clear hτ
  refine CW.seq ?_
  refine CW.region ?_
  refine RW.soft Wd.a (v := .slice none 0 0) (by exact E.assign rfl) ?_
  refine RW.fin (fun τ => τ 0 = .slice X_b b.length c_b ∧ τ 2 = .slice none 0 0) ⟨up rfl hs0, tp⟩ ?_
  rintro τ ⟨hs0, hs2⟩
  refine CW.seq ?_
  refine CW.region ?_
  refine RW.soft Wd.a (v := .slice X_b b.length c_b) (by exact E.move (AF_ev rfl hs0)) ?_
  refine RW.soft Wd.a (v := .slice X_b b.length c_b) (by exact E.move (AF_ev rfl (up rfl hs0))) ?_
  refine RW.soft Wd.a (v := .int .i64 ((b.length : Nat) : Int)) (by exact E.lenS (p := X_b) (l := b.length) (c := c_b) Try.underlying25 (AF_ev rfl tp)) ?_
  refine RW.soft Wd.a (v := .int .i64 (((b.length : Nat) : Int) % 16)) (by exact E.rem (k := .i64) (a := ((b.length : Nat) : Int)) (b := 16) (AF_ev rfl tp) rfl (by omega) (by exact Int.tmod_eq_emod_of_nonneg (by omega))) ?_
  refine RW.soft Wd.a (v := .int .i64 (16 - (((b.length : Nat) : Int) % 16))) (by exact E.sub (k := .i64) (a := 16) (b := ((b.length : Nat) : Int) % 16) rfl (AF_ev rfl tp) (show IntKind.i64.wrap (16 - (((b.length : Nat) : Int) % 16)) = 16 - (((b.length : Nat) : Int) % 16) from (by rw [IntWalk.i64_in _ (by omega)]))) ?_
  refine RW.soft Wd.a (v := .int .i64 ((16 - (((b.length : Nat) : Int) % 16)) % 16)) (by exact E.rem (k := .i64) (a := 16 - (((b.length : Nat) : Int) % 16)) (b := 16) (AF_ev rfl tp) rfl (by omega) (by exact Int.tmod_eq_emod_of_nonneg (by omega))) ?_
  obtain ⟨hg1, hF⟩ := pl hF
  obtain ⟨s2, h_s2, hF⟩ := lp hF
  refine RW.hard Wd.a ?_
  refine H.appendZ (m := ((16 - (((b.length : Nat) : Int) % 16)) % 16).toNat) (s0 := .slice X_b b.length c_b) Try.underlying25 Try.underlying3 inf5 rfl rfl (AF_ev rfl (up rfl (up rfl (up rfl (up rfl (up rfl tp)))))) (AF_ev rfl tp) (by omega) hst .here (by omega) (by omega) (by omega) ?_
  intro vX3 w hst
  have hl_s2 : s2.length = b.length + ((16 - (((b.length : Nat) : Int) % 16)) % 16).toNat := by rw [h_s2, List.length_append, List.length_replicate]
  rw [show ((b.map bu8) ++ List.replicate (((16 - (((b.length : Nat) : Int) % 16)) % 16).toNat) (.int .u8 0)) = (s2.map bu8) from by rw [h_s2, List.map_append, List.map_replicate]; first | rfl | simp, ← hl_s2] at hst
  obtain ⟨X3, c4, rfl, hcX3, hmX3, hlX3, hbX3⟩ := hst.shape
  clear hlX3
  refine RW.soft Wd.a (v := .slice X3 s2.length c4) (by exact E.assign (AF_ev rfl tp)) ?_
  refine RW.fin (fun τ => τ 0 = .slice X_b b.length c_b ∧ τ 2 = .slice X3 s2.length c4) ⟨up rfl (up rfl (up rfl (up rfl (up rfl (up rfl (up rfl (up rfl hs0))))))), tp⟩ ?_
  rintro τ ⟨hs0, hs2⟩
  refine CW.ret ?_
  refine ret1 (v := .slice X3 s2.length c4) rfl (by exact (.tmp (AF_ev rfl hs2) .nil)) ?_
  rw [somE hF]
  exact ⟨X3, c4, rfl, (by (try dsimp only); first | omega | (simp; done) | (simp; omega)), hst⟩

def Len64_j3   (j7 : BitVec 64) (j8 : Int) : Option (Int) :=
  lt_ (w64 (j8 + (((str2.getD ((j7.setWidth 8).toNat) 0#8).toNat : Nat) : Int))) fun z10 =>
  some (z10)
def Len64_j2   (j4 : BitVec 64) (j5 : Int) : Option (Int) :=
  bif decide (j4.toNat ≥ (256#64).toNat) then
    Len64_j3 (j4 >>> 8) (w64 (j5 + 8))
  else
    Len64_j3 j4 j5
def Len64_j1   (j1 : BitVec 64) (j2 : Int) : Option (Int) :=
  bif decide (j1.toNat ≥ (65536#64).toNat) then
    Len64_j2 (j1 >>> 16) (w64 (j2 + 16))
  else
    Len64_j2 j1 j2
def Len64 (x : BitVec 64) : Option (Int) :=
  bif decide (x.toNat ≥ (4294967296#64).toNat) then
    Len64_j1 (x >>> 32) 32
  else
    Len64_j1 x 0
theorem Len64_C {p : Pers} {w : World} {R : List Assn}  (x : BitVec 64) (r : Int) (hF : Len64 x = some r) (hst : St p w (R)) :
    Calls Try.prog 102 #[.int .u64 ((x).toNat : Int)] w fun e w => e = .returned (.int .i64 r) ∧ (-9223372036854775808 ≤ r ∧ r ≤ 9223372036854775807) ∧ St p w (R) := by
  unfold Len64 at hF
  refine enter Try.func102 rfl (by simp) (n := 25) rfl fun τ hτ => ?_
  have hs0 : τ 0 = .int .u64 ((x).toNat : Int) := hτ 0 (by simp)
  clear hτ
  refine CW.seq ?_
  refine CW.region ?_
  refine RW.soft Wd.a (v := .int .i64 0) (by exact E.assign rfl) ?_
  refine RW.fin (fun τ => τ 0 = .int .u64 ((x).toNat : Int) ∧ τ 2 = .int .i64 0) ⟨up rfl hs0, tp⟩ ?_
  rintro τ ⟨hs0, hs2⟩
  refine CW.seqJ (fun τ w => ∃ (j1 : BitVec 64) (j2 : Int), (-9223372036854775808 ≤ j2 ∧ j2 ≤ 9223372036854775807) ∧ Len64_j1 j1 j2 = some r ∧ τ 0 = .int .u64 ((j1).toNat : Int) ∧ τ 2 = .int .i64 j2 ∧ St p w (R)) ?_ ?_
  · skip
    refine CW.seq ?_
    refine CW.region ?_
    refine RW.soft Wd.a (v := .int .u64 ((x).toNat : Int)) (by exact E.move (AF_ev rfl hs0)) ?_
    refine RW.soft Wd.a (v := .bool (decide (x.toNat ≥ (4294967296#64).toNat))) (by exact E.ugeq (a := x) (b := 4294967296#64) (AF_ev rfl tp) rfl) ?_
    refine RW.fin (fun τ => τ 0 = .int .u64 ((x).toNat : Int) ∧ τ 2 = .int .i64 0 ∧ τ 4 = .bool (decide (x.toNat ≥ (4294967296#64).toNat))) ⟨up rfl (up rfl hs0), up rfl (up rfl hs2), tp⟩ ?_
    rintro τ ⟨hs0, hs2, hs4⟩
    refine CW.cond (AF_ev rfl hs4) (fun hc3 => ?_) (fun hc3 => ?_)
    · have hF := ct hc3 hF
      have hc3_ := hc3
      try simp only [decide_eq_true_eq, gt_iff_lt, ge_iff_le] at hc3_
      refine CW.seq ?_
      refine CW.region ?_
      refine RW.soft Wd.a (v := .int .u64 ((x).toNat : Int)) (by exact E.move (AF_ev rfl hs0)) ?_
      refine RW.soft Wd.a (v := .int .u64 ((x >>> 32).toNat : Int)) (by exact E.ushr (a := x) (j := 32) UK.u64 (AF_ev rfl tp) rfl rfl) ?_
      refine RW.soft Wd.a (v := .int .u64 ((x >>> 32).toNat : Int)) (by exact E.assign (AF_ev rfl tp)) ?_
      refine RW.fin (fun τ => τ 0 = .int .u64 ((x >>> 32).toNat : Int) ∧ τ 2 = .int .i64 0 ∧ τ 4 = .bool true) ⟨tp, up rfl (up rfl (up rfl hs2)), up rfl (up rfl (up rfl (Eq.trans hs4 (congrArg Value.bool hc3))))⟩ ?_
      rintro τ ⟨hs0, hs2, hs4⟩
      refine CW.region ?_
      refine RW.soft Wd.a (v := .int .i64 32) (by exact E.assign rfl) ?_
      refine RW.nil ?_
      refine Th.n ?_
      exact ⟨(x >>> 32), 32, (by omega), hF, up rfl hs0, tp, hst⟩
    · have hF := cf hc3 hF
      have hc3_ := hc3
      try simp only [decide_eq_false_iff_not, Int.not_lt, Int.not_le, gt_iff_lt, ge_iff_le] at hc3_
      refine CW.skip ?_
      refine Th.n ?_
      exact ⟨x, 0, (by omega), hF, hs0, hs2, hst⟩
  rintro τ w ⟨j1, j2, hr_j2, hF, hs0, hs2, hst⟩
  unfold Len64_j1 at hF
  refine CW.seqJ (fun τ w => ∃ (j4 : BitVec 64) (j5 : Int), (-9223372036854775808 ≤ j5 ∧ j5 ≤ 9223372036854775807) ∧ Len64_j2 j4 j5 = some r ∧ τ 0 = .int .u64 ((j4).toNat : Int) ∧ τ 2 = .int .i64 j5 ∧ St p w (R)) ?_ ?_
  · skip
    refine CW.seq ?_
    refine CW.region ?_
    refine RW.soft Wd.a (v := .int .u64 ((j1).toNat : Int)) (by exact E.move (AF_ev rfl hs0)) ?_
    refine RW.soft Wd.a (v := .bool (decide (j1.toNat ≥ (65536#64).toNat))) (by exact E.ugeq (a := j1) (b := 65536#64) (AF_ev rfl tp) rfl) ?_
    refine RW.fin (fun τ => τ 0 = .int .u64 ((j1).toNat : Int) ∧ τ 2 = .int .i64 j2 ∧ τ 8 = .bool (decide (j1.toNat ≥ (65536#64).toNat))) ⟨up rfl (up rfl hs0), up rfl (up rfl hs2), tp⟩ ?_
    rintro τ ⟨hs0, hs2, hs8⟩
    refine CW.cond (AF_ev rfl hs8) (fun hc6 => ?_) (fun hc6 => ?_)
    · have hF := ct hc6 hF
      have hc6_ := hc6
      try simp only [decide_eq_true_eq, gt_iff_lt, ge_iff_le] at hc6_
      refine CW.seq ?_
      refine CW.region ?_
      refine RW.soft Wd.a (v := .int .u64 ((j1).toNat : Int)) (by exact E.move (AF_ev rfl hs0)) ?_
      refine RW.soft Wd.a (v := .int .u64 ((j1 >>> 16).toNat : Int)) (by exact E.ushr (a := j1) (j := 16) UK.u64 (AF_ev rfl tp) rfl rfl) ?_
      refine RW.soft Wd.a (v := .int .u64 ((j1 >>> 16).toNat : Int)) (by exact E.assign (AF_ev rfl tp)) ?_
      refine RW.fin (fun τ => τ 0 = .int .u64 ((j1 >>> 16).toNat : Int) ∧ τ 2 = .int .i64 j2 ∧ τ 8 = .bool true) ⟨tp, up rfl (up rfl (up rfl hs2)), up rfl (up rfl (up rfl (Eq.trans hs8 (congrArg Value.bool hc6))))⟩ ?_
      rintro τ ⟨hs0, hs2, hs8⟩
      refine CW.region ?_
      refine RW.soft Wd.a (v := .int .i64 j2) (by exact E.move (AF_ev rfl hs2)) ?_
      refine RW.soft Wd.a (v := .int .i64 (w64 (j2 + 16))) (by exact E.add (k := .i64) (a := j2) (b := 16) (AF_ev rfl tp) rfl rfl) ?_
      refine RW.soft Wd.a (v := .int .i64 (w64 (j2 + 16))) (by exact E.assign (AF_ev rfl tp)) ?_
      refine RW.nil ?_
      refine Th.n ?_
      exact ⟨(j1 >>> 16), (w64 (j2 + 16)), (w64_rng _), hF, up rfl (up rfl (up rfl hs0)), tp, hst⟩
    · have hF := cf hc6 hF
      have hc6_ := hc6
      try simp only [decide_eq_false_iff_not, Int.not_lt, Int.not_le, gt_iff_lt, ge_iff_le] at hc6_
      refine CW.skip ?_
      refine Th.n ?_
      exact ⟨j1, j2, (by omega), hF, hs0, hs2, hst⟩
  rintro τ w ⟨j4, j5, hr_j5, hF, hs0, hs2, hst⟩
  unfold Len64_j2 at hF
  refine CW.seqJ (fun τ w => ∃ (j7 : BitVec 64) (j8 : Int), (-9223372036854775808 ≤ j8 ∧ j8 ≤ 9223372036854775807) ∧ Len64_j3 j7 j8 = some r ∧ τ 0 = .int .u64 ((j7).toNat : Int) ∧ τ 2 = .int .i64 j8 ∧ St p w (R)) ?_ ?_
  · skip
    refine CW.seq ?_
    refine CW.region ?_
    refine RW.soft Wd.a (v := .int .u64 ((j4).toNat : Int)) (by exact E.move (AF_ev rfl hs0)) ?_
    refine RW.soft Wd.a (v := .bool (decide (j4.toNat ≥ (256#64).toNat))) (by exact E.ugeq (a := j4) (b := 256#64) (AF_ev rfl tp) rfl) ?_
    refine RW.fin (fun τ => τ 0 = .int .u64 ((j4).toNat : Int) ∧ τ 2 = .int .i64 j5 ∧ τ 14 = .bool (decide (j4.toNat ≥ (256#64).toNat))) ⟨up rfl (up rfl hs0), up rfl (up rfl hs2), tp⟩ ?_
    rintro τ ⟨hs0, hs2, hs14⟩
    refine CW.cond (AF_ev rfl hs14) (fun hc9 => ?_) (fun hc9 => ?_)
    · have hF := ct hc9 hF
      have hc9_ := hc9
      try simp only [decide_eq_true_eq, gt_iff_lt, ge_iff_le] at hc9_
      refine CW.seq ?_
      refine CW.region ?_
      refine RW.soft Wd.a (v := .int .u64 ((j4).toNat : Int)) (by exact E.move (AF_ev rfl hs0)) ?_
      refine RW.soft Wd.a (v := .int .u64 ((j4 >>> 8).toNat : Int)) (by exact E.ushr (a := j4) (j := 8) UK.u64 (AF_ev rfl tp) rfl rfl) ?_
      refine RW.soft Wd.a (v := .int .u64 ((j4 >>> 8).toNat : Int)) (by exact E.assign (AF_ev rfl tp)) ?_
      refine RW.fin (fun τ => τ 0 = .int .u64 ((j4 >>> 8).toNat : Int) ∧ τ 2 = .int .i64 j5 ∧ τ 14 = .bool true) ⟨tp, up rfl (up rfl (up rfl hs2)), up rfl (up rfl (up rfl (Eq.trans hs14 (congrArg Value.bool hc9))))⟩ ?_
      rintro τ ⟨hs0, hs2, hs14⟩
      refine CW.region ?_
      refine RW.soft Wd.a (v := .int .i64 j5) (by exact E.move (AF_ev rfl hs2)) ?_
      refine RW.soft Wd.a (v := .int .i64 (w64 (j5 + 8))) (by exact E.add (k := .i64) (a := j5) (b := 8) (AF_ev rfl tp) rfl rfl) ?_
      refine RW.soft Wd.a (v := .int .i64 (w64 (j5 + 8))) (by exact E.assign (AF_ev rfl tp)) ?_
      refine RW.nil ?_
      refine Th.n ?_
      exact ⟨(j4 >>> 8), (w64 (j5 + 8)), (w64_rng _), hF, up rfl (up rfl (up rfl hs0)), tp, hst⟩
    · have hF := cf hc9 hF
      have hc9_ := hc9
      try simp only [decide_eq_false_iff_not, Int.not_lt, Int.not_le, gt_iff_lt, ge_iff_le] at hc9_
      refine CW.skip ?_
      refine Th.n ?_
      exact ⟨j4, j5, (by omega), hF, hs0, hs2, hst⟩
  rintro τ w ⟨j7, j8, hr_j8, hF, hs0, hs2, hst⟩
  unfold Len64_j3 at hF
  refine CW.seq ?_
  refine CW.region ?_
  refine RW.soft Wd.a (v := .int .i64 j8) (by exact E.move (AF_ev rfl hs2)) ?_
  refine RW.soft Wd.a (v := .int .u64 ((j7).toNat : Int)) (by exact E.move (AF_ev rfl (up rfl hs0))) ?_
  refine RW.soft Wd.a (v := .int .u8 ((j7.setWidth 8).toNat : Int)) (by exact E.cvUU (a := j7) (by rw [Try.underlying154]; rfl) Try.underlying5 UK.u8 (AF_ev rfl tp)) ?_
  refine RW.soft Wd.a (v := .int .u8 ((str2.getD ((j7.setWidth 8).toNat) 0#8).toNat : Int)) (by exact E.indexStr (l := str2) (j := (j7.setWidth 8).toNat) Try.underlying9 rfl str2_eq (AF_ev rfl tp) rfl (by rw [str2_len]; have := BitVec.isLt (j7.setWidth 8); omega)) ?_
  refine RW.soft Wd.a (v := .int .i64 (((str2.getD ((j7.setWidth 8).toNat) 0#8).toNat : Nat) : Int)) (by exact E.cvUI (a := str2.getD ((j7.setWidth 8).toNat) 0#8) (by rw [Try.underlying5]; rfl) Try.underlying3 (by decide) (AF_ev rfl tp)) ?_
  obtain ⟨z10, h_z10, hF⟩ := lp hF
  have hr_z10 : -9223372036854775808 ≤ z10 ∧ z10 ≤ 9223372036854775807 := by rw [h_z10]; exact (w64_rng _)
  refine RW.soft Wd.a (v := .int .i64 z10) (by exact E.v (E.add (k := .i64) (a := j8) (b := (((str2.getD ((j7.setWidth 8).toNat) 0#8).toNat : Nat) : Int)) (AF_ev rfl (up rfl (up rfl (up rfl (up rfl tp))))) (AF_ev rfl tp) rfl) (by first | (rw [h_z10]; done) | (rw [h_z10]; rfl))) ?_
  refine RW.soft Wd.a (v := .int .i64 z10) (by exact E.assign (AF_ev rfl tp)) ?_
  refine RW.fin (fun τ => τ 0 = .int .u64 ((j7).toNat : Int) ∧ τ 2 = .int .i64 z10) ⟨up rfl (up rfl (up rfl (up rfl (up rfl (up rfl (up rfl hs0)))))), tp⟩ ?_
  rintro τ ⟨hs0, hs2⟩
  refine CW.ret ?_
  refine ret1 (v := .int .i64 z10) rfl (by exact (.tmp (AF_ev rfl hs2) .nil)) ?_
  rw [somE hF]
  exact ⟨rfl, (by (try dsimp only); first | omega | exact (by omega)), hst⟩

def Len (x : BitVec 64) : Option (Int) :=
  (Len64 x).bind fun r1 =>
  some (r1)
theorem Len_C {p : Pers} {w : World} {R : List Assn}  (x : BitVec 64) (r : Int) (hF : Len x = some r) (hst : St p w (R)) :
    Calls Try.prog 79 #[.int .u64 ((x).toNat : Int)] w fun e w => e = .returned (.int .i64 r) ∧ (-9223372036854775808 ≤ r ∧ r ≤ 9223372036854775807) ∧ St p w (R) := by
  unfold Len at hF
  refine enter Try.func79 rfl (by simp) (n := 8) rfl fun τ hτ => ?_
  have hs0 : τ 0 = .int .u64 ((x).toNat : Int) := hτ 0 (by simp)
  clear hτ
  refine CW.seq ?_
  refine CW.region ?_
  refine RW.soft Wd.a (v := .int .i64 0) (by exact E.assign rfl) ?_
  refine RW.fin (fun τ => τ 0 = .int .u64 ((x).toNat : Int) ∧ τ 2 = .int .i64 0) ⟨up rfl hs0, tp⟩ ?_
  rintro τ ⟨hs0, hs2⟩
  refine CW.seq ?_
  refine CW.condF rfl ?_
  refine CW.skip ?_
  refine Th.n ?_
  refine CW.seq ?_
  refine CW.region ?_
  refine RW.soft Wd.a (v := .int .u64 ((x).toNat : Int)) (by exact E.move (AF_ev rfl hs0)) ?_
  obtain ⟨r1, h_r1, hF⟩ := bd hF
  refine RW.hard Wd.a ?_
  refine H.call0 Try.func102 nm102 rfl (map1 (AF_ev rfl tp)) (Calls.mono (Len64_C x r1 h_r1 hst) ?_)
  rintro _ w ⟨rfl, hr_q2_0, hst⟩
  refine ⟨_, rfl, ?_⟩
  show RW _ _ _ _ _ _ _
  refine RW.soft Wd.a (v := .int .i64 r1) (by exact E.assign (AF_ev rfl tp)) ?_
  refine RW.fin (fun τ => τ 0 = .int .u64 ((x).toNat : Int) ∧ τ 2 = .int .i64 r1) ⟨up rfl (up rfl (up rfl hs0)), tp⟩ ?_
  rintro τ ⟨hs0, hs2⟩
  refine CW.ret ?_
  refine ret1 (v := .int .i64 r1) rfl (by exact (.tmp (AF_ev rfl hs2) .nil)) ?_
  rw [somE hF]
  exact ⟨rfl, (by (try dsimp only); first | omega | exact (by omega)), hst⟩
end Go.Proofs.Ytjpjejldinpcnaa
