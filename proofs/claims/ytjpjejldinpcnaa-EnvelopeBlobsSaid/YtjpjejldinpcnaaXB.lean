/- Functions that were walked through by a program: what each comes to, as a plain function, and the proof. -/
import Derived.Test.YtjpjejldinpcnaaX8
namespace Go.Proofs.Ytjpjejldinpcnaa
open Go.RowKit Go.SL Go.K13
attribute [local irreducible] Go.SL.RW Go.SL.CW Go.SL.RD Go.SL.Hd Go.SL.St
set_option linter.unusedVariables false
set_option linter.unusedSimpArgs false
set_option maxRecDepth 20000
set_option maxHeartbeats 4000000

theorem nm10 : (Try.f10.name == "runtime.NumGoroutine") = false := by kernel_rfl
theorem nm11 : (Try.f11.name == "runtime.NumGoroutine") = false := by kernel_rfl
theorem nm14 : (Try.f14.name == "runtime.NumGoroutine") = false := by kernel_rfl
theorem nm15 : (Try.f15.name == "runtime.NumGoroutine") = false := by kernel_rfl

def EnvBlobs_j5   (j52 : Bool) : Option (Bool) :=
  some (j52)
def EnvBlobs_j1 (r3 : Bool) (r5 : List (BitVec 8))   : Option (Bool) :=
  (Read r5).bind fun r46 =>
  (RRead r5).bind fun r49 =>
  bif r3 then
    bif r46.1 == r49.1 then
      bif r46.2.1 == r49.2.1 then
        bif r46.2.2.1 == r49.2.2.1 then
          bif r46.2.2.2.1 == r49.2.2.2.1 then
            EnvBlobs_j5 (r46.2.2.2.2 == r49.2.2.2.2)
          else
            EnvBlobs_j5 false
        else
          EnvBlobs_j5 false
      else
        EnvBlobs_j5 false
    else
      EnvBlobs_j5 false
  else
    EnvBlobs_j5 false
def EnvBlobs_j4 (r3 : Bool) (r5 : List (BitVec 8))  (j34 : Bool) : Option (Bool) :=
  bif j34 then
    some (false)
  else
    EnvBlobs_j1 r3 r5
def EnvBlobs_j3 (t : List (Int)) (o : List (BitVec 8)) (r3 : Bool) (r5 : List (BitVec 8)) (r20 : Int × Int × List (BitVec 8) × List (BitVec 8) × Int)  (j32 : Bool) : Option (Bool) :=
  bif j32 then
    bif r20.2.2.2.2 != 0 then
      EnvBlobs_j4 r3 r5 true
    else
      lt_ (t.getD 0 (0 : Int)) fun z37 =>
      if -9223372036854775808 ≤ z37 ∧ z37 ≤ 9223372036854775807 then
        bif r20.1 != z37 then
          EnvBlobs_j4 r3 r5 true
        else
          lt_ (t.getD 1 (0 : Int)) fun z40 =>
          if -9223372036854775808 ≤ z40 ∧ z40 ≤ 9223372036854775807 then
            bif r20.2.1 != z40 then
              EnvBlobs_j4 r3 r5 true
            else
              bif r20.2.2.1 != o then
                EnvBlobs_j4 r3 r5 true
              else
                bif r20.2.2.2.1 != r5 then
                  EnvBlobs_j4 r3 r5 true
                else
                  EnvBlobs_j4 r3 r5 false
          else none
      else none
  else
    EnvBlobs_j4 r3 r5 (r20.2.2.2.2 != 140)
def EnvBlobs_j2 (t : List (Int)) (o : List (BitVec 8)) (r3 : Bool) (r5 : List (BitVec 8))  (j7 : Bool) : Option (Bool) :=
  bif j7 then
    lt_ (t.getD 0 (0 : Int)) fun z14 =>
    if -9223372036854775808 ≤ z14 ∧ z14 ≤ 9223372036854775807 then
      lt_ (t.getD 1 (0 : Int)) fun z16 =>
      if -9223372036854775808 ≤ z16 ∧ z16 ≤ 9223372036854775807 then
        (Blob z14 z16 o r5).bind fun r18 =>
        (Read r18).bind fun r20 =>
        lt_ (t.getD 0 (0 : Int)) fun z23 =>
        if -9223372036854775808 ≤ z23 ∧ z23 ≤ 9223372036854775807 then
          lt_ (t.getD 1 (0 : Int)) fun z25 =>
          if -9223372036854775808 ≤ z25 ∧ z25 ≤ 9223372036854775807 then
            (RBlob z23 z25 o r5).bind fun r27 =>
            bif r18 != r27 then
              some (false)
            else
              bif decide (((r5.length : Nat) : Int) ≥ 16) then
                EnvBlobs_j3 t o r3 r5 r20 (decide (((r5.length : Nat) : Int) ≤ 80))
              else
                EnvBlobs_j3 t o r3 r5 r20 false
          else none
        else none
      else none
    else none
  else
    EnvBlobs_j1 r3 r5
def EnvBlobs (t : List (Int)) (o : List (BitVec 8)) (A' : List (BitVec 8)) : Option (Bool) :=
  (Shown14).bind fun r3 =>
  (Few14 A').bind fun r5 =>
  lt_ (t.getD 0 (0 : Int)) fun z8 =>
  if -9223372036854775808 ≤ z8 ∧ z8 ≤ 9223372036854775807 then
    bif decide (z8 ≥ 1) then
      lt_ (t.getD 1 (0 : Int)) fun z11 =>
      if -9223372036854775808 ≤ z11 ∧ z11 ≤ 9223372036854775807 then
        EnvBlobs_j2 t o r3 r5 (decide (z11 ≥ 1))
      else none
    else
      EnvBlobs_j2 t o r3 r5 false
  else none
theorem EnvBlobs_C {p : Pers} {w : World} {R : List Assn} {A : Assn} (t : List (Int)) (hl_t : t.length = 2) (o : List (BitVec 8)) (hl_o : o.length = 12) {X_A' : Option Addr} {c_A' : Nat} (A' : List (BitVec 8)) (hm_A' : A'.length ≤ 9223372036854775807) (hS_A' : ∀ w H, St p w (A :: H) → SL.Src w 1 (.slice X_A' A'.length c_A') A'.length (A'.map bu8)) (r : Bool) (hF : EnvBlobs t o A' = some r) (hst : St p w (A :: R)) :
    Calls Try.prog 3 #[.agg ((t.map bi64)).toArray, .agg ((o.map bu8)).toArray, .slice X_A' A'.length c_A'] w fun e w => e = .returned (.bool r) ∧ St p w (A :: R) := by
  unfold EnvBlobs at hF
  refine enter Try.func3 rfl (by simp) (n := 151) rfl fun τ hτ => ?_
  have hs0 : τ 0 = .agg ((t.map bi64)).toArray := hτ 0 (by simp)
  have hs1 : τ 1 = .agg ((o.map bu8)).toArray := hτ 1 (by simp)
  have hs2 : τ 2 = .slice X_A' A'.length c_A' := hτ 2 (by simp)
  clear hτ
  refine CW.seq ?_
  refine CW.region ?_
  refine RW.hard Wd.a ?_
  refine H.box (v := .agg ((t.map bi64)).toArray) (AF_ev rfl hs0) hst fun b1 w hst => ?_
  refine RW.hard Wd.a ?_
  refine H.box (v := .agg ((o.map bu8)).toArray) (AF_ev rfl (up rfl hs1)) hst fun b2 w hst => ?_
  refine RW.soft Wd.a (v := .bool false) (by exact E.assign rfl) ?_
  refine RW.fin (fun τ => τ 0 = .agg ((t.map bi64)).toArray ∧ τ 1 = .agg ((o.map bu8)).toArray ∧ τ 2 = .slice X_A' A'.length c_A' ∧ τ 3 = .pointer (some ⟨b1, 0, none⟩) ∧ τ 4 = .pointer (some ⟨b2, 0, none⟩) ∧ τ 6 = .bool false) ⟨up rfl (up rfl (up rfl hs0)), up rfl (up rfl (up rfl hs1)), up rfl (up rfl (up rfl hs2)), up rfl (up rfl tp), up rfl tp, tp⟩ ?_
  rintro τ ⟨hs0, hs1, hs2, hs3, hs4, hs6⟩
  refine CW.seq ?_
  refine CW.region ?_
  obtain ⟨r3, h_r3, hF⟩ := bd hF
  refine RW.hard Wd.a ?_
  refine H.call0 Try.func10 nm10 rfl map0 (Calls.mono (Shown14_C  r3 h_r3 hst) ?_)
  rintro _ w ⟨rfl, hst⟩
  refine ⟨_, rfl, ?_⟩
  show RW _ _ _ _ _ _ _
  refine RW.soft Wd.a (v := .bool r3) (by exact E.assign (AF_ev rfl tp)) ?_
  refine RW.fin (fun τ => τ 0 = .agg ((t.map bi64)).toArray ∧ τ 1 = .agg ((o.map bu8)).toArray ∧ τ 2 = .slice X_A' A'.length c_A' ∧ τ 3 = .pointer (some ⟨b1, 0, none⟩) ∧ τ 4 = .pointer (some ⟨b2, 0, none⟩) ∧ τ 6 = .bool false ∧ τ 7 = .bool r3) ⟨up rfl (up rfl hs0), up rfl (up rfl hs1), up rfl (up rfl hs2), up rfl (up rfl hs3), up rfl (up rfl hs4), up rfl (up rfl hs6), tp⟩ ?_
  rintro τ ⟨hs0, hs1, hs2, hs3, hs4, hs6, hs7⟩
  refine CW.seq ?_
  refine CW.region ?_
  refine RW.soft Wd.a (v := .slice X_A' A'.length c_A') (by exact E.move (AF_ev rfl hs2)) ?_
  obtain ⟨r5, h_r5, hF⟩ := bd hF
  have hst := hst.take (.there (.there .here))
  refine RW.hard Wd.a ?_
  refine H.call0 Try.func11 nm11 rfl (map1 (AF_ev rfl tp)) (Calls.mono (Few14_C (A := A) A' (by first | omega | (simp; done)) (fun w H s => (hS_A' _ _ s)) r5 h_r5 hst) ?_)
  rintro _ w ⟨Xq6_0, cq6_0, rfl, hS_q6_0, hm_q6_0, hst⟩
  refine ⟨_, rfl, ?_⟩
  show RW _ _ _ _ _ _ _
  refine RW.soft Wd.a (v := .slice Xq6_0 r5.length cq6_0) (by exact E.assign (AF_ev rfl tp)) ?_
  refine RW.fin (fun τ => τ 0 = .agg ((t.map bi64)).toArray ∧ τ 1 = .agg ((o.map bu8)).toArray ∧ τ 2 = .slice Xq6_0 r5.length cq6_0 ∧ τ 3 = .pointer (some ⟨b1, 0, none⟩) ∧ τ 4 = .pointer (some ⟨b2, 0, none⟩) ∧ τ 6 = .bool false ∧ τ 7 = .bool r3) ⟨up rfl (up rfl (up rfl hs0)), up rfl (up rfl (up rfl hs1)), tp, up rfl (up rfl (up rfl hs3)), up rfl (up rfl (up rfl hs4)), up rfl (up rfl (up rfl hs6)), up rfl (up rfl (up rfl hs7))⟩ ?_
  rintro τ ⟨hs0, hs1, hs2, hs3, hs4, hs6, hs7⟩
  refine CW.seqJ (fun τ w => EnvBlobs_j1 r3 r5 = some r ∧ τ 2 = .slice Xq6_0 r5.length cq6_0 ∧ τ 6 = .bool false ∧ τ 7 = .bool r3 ∧ St p w (A :: R)) ?_ ?_
  · skip
    refine CW.seqJ (fun τ w => ∃ (j7 : Bool), EnvBlobs_j2 t o r3 r5 j7 = some r ∧ τ 2 = .slice Xq6_0 r5.length cq6_0 ∧ τ 3 = .pointer (some ⟨b1, 0, none⟩) ∧ τ 4 = .pointer (some ⟨b2, 0, none⟩) ∧ τ 6 = .bool false ∧ τ 7 = .bool r3 ∧ τ 35 = .bool j7 ∧ St p w (A :: pt b2 (.cells ((o.map bu8)).toArray 24) :: pt b1 (.cells ((t.map bi64)).toArray 22) :: R)) ?_ ?_
    · skip
      refine CW.region ?_
      refine RW.soft Wd.a (v := .pointer (some ⟨b1, 0, none⟩)) (by exact E.indexAddrA (b := b1) (o := 0) (i := 0) Try.underlying22 sz3 (AF_ev rfl hs3) rfl (by omega) (by omega) (by omega)) ?_
      obtain ⟨z8, h_z8, hF⟩ := lp hF
      obtain ⟨hg9, hF⟩ := pl hF
      refine RW.soft Wd.a (v := .int .i64 z8) (by exact E.v (E.load (a := ⟨b1, 0, none⟩) Try.underlying3 rfl (AF_ev rfl tp) (hst.cellL (.there (.there .here)) (getF (f := bi64) (d := (0 : Int)) (by rw [hl_t]; omega)))) (by rw [h_z8])) ?_
      refine RW.soft Wd.a (v := .bool (decide (z8 ≥ 1))) (by exact E.geq (k := .i64) (a := z8) (b := 1) (AF_ev rfl tp) rfl) ?_
      refine RW.soft Wd.a (v := .bool (decide (z8 ≥ 1))) (by exact E.move (AF_ev rfl tp)) ?_
      refine Or.elim (Bool.eq_false_or_eq_true (decide (z8 ≥ 1))) (fun hw10 => ?_) (fun hw10 => ?_)
      · have hF := ct hw10 hF
        have hw10_ := hw10
        try simp only [decide_eq_true_eq, gt_iff_lt, ge_iff_le] at hw10_
        refine RW.soft (by exact Wd.yes (x := 31) rfl (AF_ev rfl (Eq.trans tp (congrArg Value.bool hw10)))) (v := .pointer (some ⟨b1, 1, none⟩)) (by exact E.indexAddrA (b := b1) (o := 0) (i := 1) Try.underlying22 sz3 (AF_ev rfl (up rfl (up rfl (up rfl (up rfl hs3))))) rfl (by omega) (by omega) (by omega)) ?_
        obtain ⟨z11, h_z11, hF⟩ := lp hF
        obtain ⟨hg12, hF⟩ := pl hF
        refine RW.soft (by exact Wd.yes (x := 31) rfl (AF_ev rfl (up rfl (Eq.trans tp (congrArg Value.bool hw10))))) (v := .int .i64 z11) (by exact E.v (E.load (a := ⟨b1, 1, none⟩) Try.underlying3 rfl (AF_ev rfl tp) (hst.cellL (.there (.there .here)) (getF (f := bi64) (d := (0 : Int)) (by rw [hl_t]; omega)))) (by rw [h_z11])) ?_
        refine RW.soft (by exact Wd.yes (x := 31) rfl (AF_ev rfl (up rfl (up rfl (Eq.trans tp (congrArg Value.bool hw10)))))) (v := .bool (decide (z11 ≥ 1))) (by exact E.geq (k := .i64) (a := z11) (b := 1) (AF_ev rfl tp) rfl) ?_
        refine RW.soft Wd.a (v := .bool (decide (z11 ≥ 1))) (by exact E.pickT (AF_ev rfl (up rfl (up rfl (up rfl (Eq.trans tp (congrArg Value.bool hw10)))))) (AF_ev rfl tp)) ?_
        refine RW.nil ?_
        refine Th.n ?_
        have hst := hst.take (.there (.there .here))
        have hst := hst.take (.there (.there .here))
        have hst := hst.take (.there (.there .here))
        exact ⟨(decide (z11 ≥ 1)), hF, up rfl (up rfl (up rfl (up rfl (up rfl (up rfl (up rfl (up rfl hs2))))))), up rfl (up rfl (up rfl (up rfl (up rfl (up rfl (up rfl (up rfl hs3))))))), up rfl (up rfl (up rfl (up rfl (up rfl (up rfl (up rfl (up rfl hs4))))))), up rfl (up rfl (up rfl (up rfl (up rfl (up rfl (up rfl (up rfl hs6))))))), up rfl (up rfl (up rfl (up rfl (up rfl (up rfl (up rfl (up rfl hs7))))))), tp, hst⟩
      · have hF := cf hw10 hF
        have hw10_ := hw10
        try simp only [decide_eq_false_iff_not, Int.not_lt, Int.not_le, gt_iff_lt, ge_iff_le] at hw10_
        refine RW.pass (by exact Wd.no (x := 31) (b := false) rfl (AF_ev rfl (Eq.trans tp (congrArg Value.bool hw10))) rfl) ?_
        refine RW.pass (by exact Wd.no (x := 31) (b := false) rfl (AF_ev rfl (up rfl (Eq.trans tp (congrArg Value.bool hw10)))) rfl) ?_
        refine RW.pass (by exact Wd.no (x := 31) (b := false) rfl (AF_ev rfl (up rfl (up rfl (Eq.trans tp (congrArg Value.bool hw10))))) rfl) ?_
        refine RW.soft Wd.a (v := .bool false) (by exact E.pickF (AF_ev rfl (up rfl (up rfl (up rfl (Eq.trans tp (congrArg Value.bool hw10)))))) rfl) ?_
        refine RW.nil ?_
        refine Th.n ?_
        have hst := hst.take (.there (.there .here))
        have hst := hst.take (.there (.there .here))
        have hst := hst.take (.there (.there .here))
        exact ⟨false, hF, up rfl (up rfl (up rfl (up rfl (up rfl (up rfl (up rfl (up rfl hs2))))))), up rfl (up rfl (up rfl (up rfl (up rfl (up rfl (up rfl (up rfl hs3))))))), up rfl (up rfl (up rfl (up rfl (up rfl (up rfl (up rfl (up rfl hs4))))))), up rfl (up rfl (up rfl (up rfl (up rfl (up rfl (up rfl (up rfl hs6))))))), up rfl (up rfl (up rfl (up rfl (up rfl (up rfl (up rfl (up rfl hs7))))))), tp, hst⟩
    rintro τ w ⟨j7, hF, hs2, hs3, hs4, hs6, hs7, hs35, hst⟩
    unfold EnvBlobs_j2 at hF
    refine CW.cond (AF_ev rfl hs35) (fun hc13 => ?_) (fun hc13 => ?_)
    · have hF := ct hc13 hF
      refine CW.seq ?_
      refine CW.region ?_
      refine RW.soft Wd.a (v := .pointer (some ⟨b1, 0, none⟩)) (by exact E.indexAddrA (b := b1) (o := 0) (i := 0) Try.underlying22 sz3 (AF_ev rfl hs3) rfl (by omega) (by omega) (by omega)) ?_
      obtain ⟨z14, h_z14, hF⟩ := lp hF
      obtain ⟨hg15, hF⟩ := pl hF
      refine RW.soft Wd.a (v := .int .i64 z14) (by exact E.v (E.load (a := ⟨b1, 0, none⟩) Try.underlying3 rfl (AF_ev rfl tp) (hst.cellL (.there (.there .here)) (getF (f := bi64) (d := (0 : Int)) (by rw [hl_t]; omega)))) (by rw [h_z14])) ?_
      refine RW.soft Wd.a (v := .pointer (some ⟨b1, 1, none⟩)) (by exact E.indexAddrA (b := b1) (o := 0) (i := 1) Try.underlying22 sz3 (AF_ev rfl (up rfl (up rfl hs3))) rfl (by omega) (by omega) (by omega)) ?_
      obtain ⟨z16, h_z16, hF⟩ := lp hF
      obtain ⟨hg17, hF⟩ := pl hF
      refine RW.soft Wd.a (v := .int .i64 z16) (by exact E.v (E.load (a := ⟨b1, 1, none⟩) Try.underlying3 rfl (AF_ev rfl tp) (hst.cellL (.there (.there .here)) (getF (f := bi64) (d := (0 : Int)) (by rw [hl_t]; omega)))) (by rw [h_z16])) ?_
      refine RW.soft Wd.a (v := .agg ((o.map bu8)).toArray) (by exact E.loadN (b := b2) (o := 0) (cs := (o.map bu8)) Try.underlying24 rfl sz24 (AF_ev rfl (up rfl (up rfl (up rfl (up rfl hs4))))) ((List.length_map _).trans hl_o) (St.cellsOf hst (.there .here) allF)) ?_
      refine RW.soft Wd.a (v := .slice Xq6_0 r5.length cq6_0) (by exact E.move (AF_ev rfl (up rfl (up rfl (up rfl (up rfl (up rfl hs2))))))) ?_
      obtain ⟨r18, h_r18, hF⟩ := bd hF
      refine RW.hard Wd.a ?_
      refine H.call0 Try.func12 nm12 rfl (map4 (AF_ev rfl (up rfl (up rfl (up rfl (up rfl tp))))) (AF_ev rfl (up rfl (up rfl tp))) (AF_ev rfl (up rfl tp)) (AF_ev rfl tp)) (Calls.mono (Blob_C (A := A) z14 (by omega) z16 (by omega) o hl_o r5 (by first | omega | (simp; done)) (fun w H s => (hS_q6_0 _ _ s)) r18 h_r18 hst) ?_)
      rintro _ w ⟨Xq19_0, cq19_0, rfl, hm_q19_0, hst⟩
      refine ⟨_, rfl, ?_⟩
      show RW _ _ _ _ _ _ _
      refine RW.soft Wd.a (v := .slice Xq19_0 r18.length cq19_0) (by exact E.assign (AF_ev rfl tp)) ?_
      refine RW.fin (fun τ => τ 2 = .slice Xq6_0 r5.length cq6_0 ∧ τ 3 = .pointer (some ⟨b1, 0, none⟩) ∧ τ 4 = .pointer (some ⟨b2, 0, none⟩) ∧ τ 6 = .bool false ∧ τ 7 = .bool r3 ∧ τ 8 = .slice Xq19_0 r18.length cq19_0 ∧ τ 35 = .bool true) ⟨up rfl (up rfl (up rfl (up rfl (up rfl (up rfl (up rfl (up rfl hs2))))))), up rfl (up rfl (up rfl (up rfl (up rfl (up rfl (up rfl (up rfl hs3))))))), up rfl (up rfl (up rfl (up rfl (up rfl (up rfl (up rfl (up rfl hs4))))))), up rfl (up rfl (up rfl (up rfl (up rfl (up rfl (up rfl (up rfl hs6))))))), up rfl (up rfl (up rfl (up rfl (up rfl (up rfl (up rfl (up rfl hs7))))))), tp, up rfl (up rfl (up rfl (up rfl (up rfl (up rfl (up rfl (up rfl (Eq.trans hs35 (congrArg Value.bool hc13)))))))))⟩ ?_
      rintro τ ⟨hs2, hs3, hs4, hs6, hs7, hs8, hs35⟩
      refine CW.seq ?_
      refine CW.region ?_
      refine RW.soft Wd.a (v := .slice Xq19_0 r18.length cq19_0) (by exact E.move (AF_ev rfl hs8)) ?_
      obtain ⟨r20, h_r20, hF⟩ := bd hF
      refine RW.hard Wd.a ?_
      refine H.call0 Try.func13 nm13 rfl (map1 (AF_ev rfl tp)) (Calls.mono (Read_C (A := SL.Own 5 1 (.slice Xq19_0 r18.length cq19_0) r18.length (r18.map bu8)) r18 (by first | omega | (simp; done)) (fun w H s => (Own.src s)) r20 h_r20 hst) ?_)
      rintro _ w ⟨Xq21_3, cq21_3, rfl, hr_q21_0, hr_q21_1, hl_q21_2, hm_q21_3, hr_q21_4, hst⟩
      refine ⟨_, rfl, ?_⟩
      show RW _ _ _ _ _ _ _
      refine RW.soft Wd.a (v := .tuple #[.int .i64 r20.1, .int .i64 r20.2.1, .agg ((r20.2.2.1.map bu8)).toArray, .slice Xq21_3 r20.2.2.2.1.length cq21_3, .int .i64 r20.2.2.2.2]) (by exact E.move (AF_ev rfl tp)) ?_
      refine RW.soft Wd.a (v := .int .i64 r20.1) (by exact E.extract (vs := #[.int .i64 r20.1, .int .i64 r20.2.1, .agg ((r20.2.2.1.map bu8)).toArray, .slice Xq21_3 r20.2.2.2.1.length cq21_3, .int .i64 r20.2.2.2.2]) (AF_ev rfl tp) rfl) ?_
      refine RW.soft Wd.a (v := .int .i64 r20.2.1) (by exact E.extract (vs := #[.int .i64 r20.1, .int .i64 r20.2.1, .agg ((r20.2.2.1.map bu8)).toArray, .slice Xq21_3 r20.2.2.2.1.length cq21_3, .int .i64 r20.2.2.2.2]) (AF_ev rfl (up rfl tp)) rfl) ?_
      refine RW.soft Wd.a (v := .agg ((r20.2.2.1.map bu8)).toArray) (by exact E.extract (vs := #[.int .i64 r20.1, .int .i64 r20.2.1, .agg ((r20.2.2.1.map bu8)).toArray, .slice Xq21_3 r20.2.2.2.1.length cq21_3, .int .i64 r20.2.2.2.2]) (AF_ev rfl (up rfl (up rfl tp))) rfl) ?_
      refine RW.soft Wd.a (v := .slice Xq21_3 r20.2.2.2.1.length cq21_3) (by exact E.extract (vs := #[.int .i64 r20.1, .int .i64 r20.2.1, .agg ((r20.2.2.1.map bu8)).toArray, .slice Xq21_3 r20.2.2.2.1.length cq21_3, .int .i64 r20.2.2.2.2]) (AF_ev rfl (up rfl (up rfl (up rfl tp)))) rfl) ?_
      refine RW.soft Wd.a (v := .int .i64 r20.2.2.2.2) (by exact E.extract (vs := #[.int .i64 r20.1, .int .i64 r20.2.1, .agg ((r20.2.2.1.map bu8)).toArray, .slice Xq21_3 r20.2.2.2.1.length cq21_3, .int .i64 r20.2.2.2.2]) (AF_ev rfl (up rfl (up rfl (up rfl (up rfl tp))))) rfl) ?_
      refine RW.hard Wd.a ?_
      refine H.alloc zs24 hst fun b22 w hst => ?_
      refine RW.soft Wd.a (v := .int .i64 r20.1) (by exact E.assign (AF_ev rfl (up rfl (up rfl (up rfl (up rfl (up rfl tp))))))) ?_
      refine RW.soft Wd.a (v := .int .i64 r20.2.1) (by exact E.assign (AF_ev rfl (up rfl (up rfl (up rfl (up rfl (up rfl tp))))))) ?_
      refine RW.hard Wd.a ?_
      refine H.storeL (b := b22) (o := 0) (m := 12) (v := .agg ((r20.2.2.1.map bu8)).toArray) (ys := (r20.2.2.1.map bu8)) (L' := (r20.2.2.1.map bu8)) (AF_ev rfl (up rfl (up rfl tp))) (AF_ev rfl (up rfl (up rfl (up rfl (up rfl (up rfl tp)))))) hst .here sz24 rfl ((List.length_map _).trans hl_q21_2) (ones_map (fun _ => rfl)) (putW (Eq.trans (show (r20.2.2.1.map bu8).length = 12 from ((List.length_map _).trans hl_q21_2)) (Eq.symm (show ((List.replicate 12 0#8).map bu8).length = 12 from ((List.length_map _).trans (List.length_replicate)))))) fun w hst => ?_
      refine RW.soft Wd.a (v := .slice Xq21_3 r20.2.2.2.1.length cq21_3) (by exact E.assign (AF_ev rfl (u0 (up rfl (up rfl (up rfl (up rfl tp))))))) ?_
      refine RW.soft Wd.a (v := .int .i64 r20.2.2.2.2) (by exact E.assign (AF_ev rfl (up rfl (u0 (up rfl (up rfl (up rfl tp))))))) ?_
      refine RW.fin (fun τ => τ 2 = .slice Xq6_0 r5.length cq6_0 ∧ τ 3 = .pointer (some ⟨b1, 0, none⟩) ∧ τ 4 = .pointer (some ⟨b2, 0, none⟩) ∧ τ 6 = .bool false ∧ τ 7 = .bool r3 ∧ τ 8 = .slice Xq19_0 r18.length cq19_0 ∧ τ 9 = .int .i64 r20.1 ∧ τ 10 = .int .i64 r20.2.1 ∧ τ 11 = .pointer (some ⟨b22, 0, none⟩) ∧ τ 12 = .slice Xq21_3 r20.2.2.2.1.length cq21_3 ∧ τ 13 = .int .i64 r20.2.2.2.2 ∧ τ 35 = .bool true) ⟨up rfl (up rfl (u0 (up rfl (up rfl (up rfl (up rfl (up rfl (up rfl (up rfl (up rfl (up rfl (up rfl (up rfl hs2))))))))))))), up rfl (up rfl (u0 (up rfl (up rfl (up rfl (up rfl (up rfl (up rfl (up rfl (up rfl (up rfl (up rfl (up rfl hs3))))))))))))), up rfl (up rfl (u0 (up rfl (up rfl (up rfl (up rfl (up rfl (up rfl (up rfl (up rfl (up rfl (up rfl (up rfl hs4))))))))))))), up rfl (up rfl (u0 (up rfl (up rfl (up rfl (up rfl (up rfl (up rfl (up rfl (up rfl (up rfl (up rfl (up rfl hs6))))))))))))), up rfl (up rfl (u0 (up rfl (up rfl (up rfl (up rfl (up rfl (up rfl (up rfl (up rfl (up rfl (up rfl (up rfl hs7))))))))))))), up rfl (up rfl (u0 (up rfl (up rfl (up rfl (up rfl (up rfl (up rfl (up rfl (up rfl (up rfl (up rfl (up rfl hs8))))))))))))), up rfl (up rfl (u0 (up rfl tp))), up rfl (up rfl (u0 tp)), up rfl (up rfl (u0 (up rfl (up rfl tp)))), up rfl tp, tp, up rfl (up rfl (u0 (up rfl (up rfl (up rfl (up rfl (up rfl (up rfl (up rfl (up rfl (up rfl (up rfl (up rfl hs35)))))))))))))⟩ ?_
      rintro τ ⟨hs2, hs3, hs4, hs6, hs7, hs8, hs9, hs10, hs11, hs12, hs13, hs35⟩
      refine CW.seq ?_
      refine CW.seq ?_
      obtain ⟨z23, h_z23, hF⟩ := lp hF
      obtain ⟨hg24, hF⟩ := pl hF
      obtain ⟨z25, h_z25, hF⟩ := lp hF
      obtain ⟨hg26, hF⟩ := pl hF
      obtain ⟨r27, h_r27, hF⟩ := bd hF
      refine CW.regionE [1, 3, 5, 6] (fun w => (SL.Src w 1 (.slice Xq19_0 r18.length cq19_0) r18.length (r18.map bu8)) ∧ w.cell? ⟨b1, 0, none⟩ = some (.int .i64 (t.getD 0 (0 : Int))) ∧ w.cell? ⟨b1, 1, none⟩ = some (.int .i64 (t.getD 1 (0 : Int))) ∧ (∀ j_ v_, ((o.map bu8) : List Value)[j_]? = some v_ → w.cell? ⟨b2, 0 + j_, none⟩ = some v_)) mixed ?_
      have hst := hst.drew
      generalize w.drew = w at hst ⊢
      have hS : (SL.Src w 1 (.slice Xq19_0 r18.length cq19_0) r18.length (r18.map bu8)) ∧ w.cell? ⟨b1, 0, none⟩ = some (.int .i64 (t.getD 0 (0 : Int))) ∧ w.cell? ⟨b1, 1, none⟩ = some (.int .i64 (t.getD 1 (0 : Int))) ∧ (∀ j_ v_, ((o.map bu8) : List Value)[j_]? = some v_ → w.cell? ⟨b2, 0 + j_, none⟩ = some v_) := ⟨(Own.src (hst.take (.there (.there .here)))), (hst.cellL (.there (.there (.there (.there (.there .here))))) (getF (f := bi64) (d := (0 : Int)) (by rw [hl_t]; omega))), (hst.cellL (.there (.there (.there (.there (.there .here))))) (getF (f := bi64) (d := (0 : Int)) (by rw [hl_t]; omega))), (St.cellsOf hst (.there (.there (.there (.there .here)))) allF)⟩
      refine RE.takeF 0 rfl (by kernel_rfl) Wd.a (v := .slice Xq19_0 r18.length cq19_0) (fun w => by exact E.move (AF_ev rfl hs8)) ?_
      refine RE.take 1 rfl (by kernel_rfl) Wd.a (v := .string (sb r18)) (fun w hS => by exact E.strB (v := .slice Xq19_0 r18.length cq19_0) (m := r18.length) (l := r18) Try.underlying25 Try.underlying5 Try.underlying9 (AF_ev rfl tp) (hS.1)) hS ?_
      refine RE.takeF 2 rfl (by kernel_rfl) Wd.a (v := .pointer (some ⟨b1, 0, none⟩)) (fun w => by exact E.indexAddrA (b := b1) (o := 0) (i := 0) Try.underlying22 sz3 (AF_ev rfl (up rfl (up rfl hs3))) rfl (by omega) (by omega) (by omega)) ?_
      refine RE.take 3 rfl (by kernel_rfl) Wd.a (v := .int .i64 z23) (fun w hS => by exact E.v (E.load (a := ⟨b1, 0, none⟩) Try.underlying3 rfl (AF_ev rfl tp) hS.2.1) (by rw [h_z23])) hS ?_
      refine RE.takeF 4 rfl (by kernel_rfl) Wd.a (v := .pointer (some ⟨b1, 1, none⟩)) (fun w => by exact E.indexAddrA (b := b1) (o := 0) (i := 1) Try.underlying22 sz3 (AF_ev rfl (up rfl (up rfl (up rfl (up rfl hs3))))) rfl (by omega) (by omega) (by omega)) ?_
      refine RE.take 5 rfl (by kernel_rfl) Wd.a (v := .int .i64 z25) (fun w hS => by exact E.v (E.load (a := ⟨b1, 1, none⟩) Try.underlying3 rfl (AF_ev rfl tp) hS.2.2.1) (by rw [h_z25])) hS ?_
      refine RE.take 6 rfl (by kernel_rfl) Wd.a (v := .agg ((o.map bu8)).toArray) (fun w hS => by exact E.loadN (b := b2) (o := 0) (cs := (o.map bu8)) Try.underlying24 rfl sz24 (AF_ev rfl (up rfl (up rfl (up rfl (up rfl (up rfl (up rfl hs4))))))) ((List.length_map _).trans hl_o) hS.2.2.2) hS ?_
      refine RE.takeF 7 rfl (by kernel_rfl) Wd.a (v := .slice Xq6_0 r5.length cq6_0) (fun w => by exact E.move (AF_ev rfl (up rfl (up rfl (up rfl (up rfl (up rfl (up rfl (up rfl hs2))))))))) ?_
      refine RE.only 8 rfl (by kernel_rfl) Wd.a ?_
      have hst := hst.take (.there (.there (.there .here)))
      refine H.call0 Try.func14 nm14 rfl (map4 (AF_ev rfl (up rfl (up rfl (up rfl (up rfl tp))))) (AF_ev rfl (up rfl (up rfl tp))) (AF_ev rfl (up rfl tp)) (AF_ev rfl tp)) (Calls.mono (RBlob_C (A := A) z23 (by omega) z25 (by omega) o hl_o r5 (by first | omega | (simp; done)) (fun w H s => (hS_q6_0 _ _ s)) r27 h_r27 hst) ?_)
      rintro _ w ⟨Xq30_0, cq30_0, rfl, hm_q30_0, hst⟩
      refine ⟨_, rfl, ?_⟩
      have hS : (SL.Src w 1 (.slice Xq19_0 r18.length cq19_0) r18.length (r18.map bu8)) ∧ w.cell? ⟨b1, 0, none⟩ = some (.int .i64 (t.getD 0 (0 : Int))) ∧ w.cell? ⟨b1, 1, none⟩ = some (.int .i64 (t.getD 1 (0 : Int))) ∧ (∀ j_ v_, ((o.map bu8) : List Value)[j_]? = some v_ → w.cell? ⟨b2, 0 + j_, none⟩ = some v_) := ⟨(Own.src (hst.take (.there (.there (.there (.there .here)))))), (hst.cellL (.there (.there (.there (.there (.there (.there .here)))))) (getF (f := bi64) (d := (0 : Int)) (by rw [hl_t]; omega))), (hst.cellL (.there (.there (.there (.there (.there (.there .here)))))) (getF (f := bi64) (d := (0 : Int)) (by rw [hl_t]; omega))), (St.cellsOf hst (.there (.there (.there (.there (.there .here))))) allF)⟩
      refine ⟨fun _ _ => hS, ?_⟩
      refine RE.only 9 rfl (by kernel_rfl) Wd.a (Hd.value (v := .string (sb r27)) (by exact E.strB (v := .slice Xq30_0 r27.length cq30_0) (m := r27.length) (l := r27) Try.underlying25 Try.underlying5 Try.underlying9 (AF_ev rfl tp) ((Own.src (hst.take .here)))) ⟨fun _ h => h, ?_⟩)
      refine RE.only 10 rfl (by kernel_rfl) Wd.a (Hd.value (v := .bool (r18 != r27)) (by exact E.neqSB (a := r18) (b := r27) (AF_ev rfl (up rfl (up rfl (up rfl (up rfl (up rfl (up rfl (up rfl (up rfl tp))))))))) (AF_ev rfl tp)) ⟨fun _ h => h, ?_⟩)
      refine RE.fin (by kernel_rfl) (fun τ => τ 2 = .slice Xq6_0 r5.length cq6_0 ∧ τ 3 = .pointer (some ⟨b1, 0, none⟩) ∧ τ 4 = .pointer (some ⟨b2, 0, none⟩) ∧ τ 6 = .bool false ∧ τ 7 = .bool r3 ∧ τ 8 = .slice Xq19_0 r18.length cq19_0 ∧ τ 9 = .int .i64 r20.1 ∧ τ 10 = .int .i64 r20.2.1 ∧ τ 11 = .pointer (some ⟨b22, 0, none⟩) ∧ τ 12 = .slice Xq21_3 r20.2.2.2.1.length cq21_3 ∧ τ 13 = .int .i64 r20.2.2.2.2 ∧ τ 35 = .bool true ∧ τ 61 = .bool (r18 != r27)) ⟨up rfl (up rfl (up rfl (up rfl (up rfl (up rfl (up rfl (up rfl (up rfl (up rfl (up rfl hs2)))))))))), up rfl (up rfl (up rfl (up rfl (up rfl (up rfl (up rfl (up rfl (up rfl (up rfl (up rfl hs3)))))))))), up rfl (up rfl (up rfl (up rfl (up rfl (up rfl (up rfl (up rfl (up rfl (up rfl (up rfl hs4)))))))))), up rfl (up rfl (up rfl (up rfl (up rfl (up rfl (up rfl (up rfl (up rfl (up rfl (up rfl hs6)))))))))), up rfl (up rfl (up rfl (up rfl (up rfl (up rfl (up rfl (up rfl (up rfl (up rfl (up rfl hs7)))))))))), up rfl (up rfl (up rfl (up rfl (up rfl (up rfl (up rfl (up rfl (up rfl (up rfl (up rfl hs8)))))))))), up rfl (up rfl (up rfl (up rfl (up rfl (up rfl (up rfl (up rfl (up rfl (up rfl (up rfl hs9)))))))))), up rfl (up rfl (up rfl (up rfl (up rfl (up rfl (up rfl (up rfl (up rfl (up rfl (up rfl hs10)))))))))), up rfl (up rfl (up rfl (up rfl (up rfl (up rfl (up rfl (up rfl (up rfl (up rfl (up rfl hs11)))))))))), up rfl (up rfl (up rfl (up rfl (up rfl (up rfl (up rfl (up rfl (up rfl (up rfl (up rfl hs12)))))))))), up rfl (up rfl (up rfl (up rfl (up rfl (up rfl (up rfl (up rfl (up rfl (up rfl (up rfl hs13)))))))))), up rfl (up rfl (up rfl (up rfl (up rfl (up rfl (up rfl (up rfl (up rfl (up rfl (up rfl hs35)))))))))), tp⟩ ?_
      rintro τ ⟨hs2, hs3, hs4, hs6, hs7, hs8, hs9, hs10, hs11, hs12, hs13, hs35, hs61⟩
      refine CW.cond (AF_ev rfl hs61) (fun hc31 => ?_) (fun hc31 => ?_)
      · have hF := ct hc31 hF
        have hc31_ := hc31
        try simp only [bne_iff_ne, ne_eq] at hc31_
        refine CW.seq ?_
        refine CW.region ?_
        refine RW.soft Wd.a (v := .bool false) (by exact E.assign rfl) ?_
        refine RW.fin (fun τ => τ 2 = .slice Xq6_0 r5.length cq6_0 ∧ τ 3 = .pointer (some ⟨b1, 0, none⟩) ∧ τ 4 = .pointer (some ⟨b2, 0, none⟩) ∧ τ 6 = .bool false ∧ τ 7 = .bool r3 ∧ τ 8 = .slice Xq19_0 r18.length cq19_0 ∧ τ 9 = .int .i64 r20.1 ∧ τ 10 = .int .i64 r20.2.1 ∧ τ 11 = .pointer (some ⟨b22, 0, none⟩) ∧ τ 12 = .slice Xq21_3 r20.2.2.2.1.length cq21_3 ∧ τ 13 = .int .i64 r20.2.2.2.2 ∧ τ 35 = .bool true ∧ τ 61 = .bool true) ⟨up rfl hs2, up rfl hs3, up rfl hs4, tp, up rfl hs7, up rfl hs8, up rfl hs9, up rfl hs10, up rfl hs11, up rfl hs12, up rfl hs13, up rfl hs35, up rfl (Eq.trans hs61 (congrArg Value.bool hc31))⟩ ?_
        rintro τ ⟨hs2, hs3, hs4, hs6, hs7, hs8, hs9, hs10, hs11, hs12, hs13, hs35, hs61⟩
        refine CW.ret ?_
        refine Th.r ?_
        refine Th.r ?_
        refine ret1 (v := .bool false) rfl (by exact (.tmp (AF_ev rfl hs6) .nil)) ?_
        have hst := hst.take (.there .here)
        have hst := (hst.take (.there .here)).drop
        have hst := (hst.take (.there .here)).drop
        have hst := (hst.take (.there .here)).drop
        have hst := (hst.take (.there .here)).drop
        have hst := (hst.take (.there .here)).drop
        have hst := (hst.take (.there .here)).drop
        rw [somE hF]
        exact ⟨rfl, hst⟩
      · have hF := cf hc31 hF
        have hc31_ := hc31
        try simp only [bne_eq_false_iff_eq] at hc31_
        refine CW.skip ?_
        refine Th.n ?_
        refine CW.seqJ (fun τ w => ∃ (j32 : Bool), EnvBlobs_j3 t o r3 r5 r20 j32 = some r ∧ τ 2 = .slice Xq6_0 r5.length cq6_0 ∧ τ 3 = .pointer (some ⟨b1, 0, none⟩) ∧ τ 4 = .pointer (some ⟨b2, 0, none⟩) ∧ τ 6 = .bool false ∧ τ 7 = .bool r3 ∧ τ 9 = .int .i64 r20.1 ∧ τ 10 = .int .i64 r20.2.1 ∧ τ 11 = .pointer (some ⟨b22, 0, none⟩) ∧ τ 12 = .slice Xq21_3 r20.2.2.2.1.length cq21_3 ∧ τ 13 = .int .i64 r20.2.2.2.2 ∧ τ 14 = .bool j32 ∧ St p w (A :: pt b22 (.cells ((r20.2.2.1.map bu8)).toArray 24) :: Tel (.slice Xq21_3 r20.2.2.2.1.length cq21_3) r20.2.2.2.1 :: pt b2 (.cells ((o.map bu8)).toArray 24) :: pt b1 (.cells ((t.map bi64)).toArray 22) :: R)) ?_ ?_
        · skip
          refine CW.region ?_
          refine RW.soft Wd.a (v := .slice Xq6_0 r5.length cq6_0) (by exact E.move (AF_ev rfl hs2)) ?_
          refine RW.soft Wd.a (v := .int .i64 ((r5.length : Nat) : Int)) (by exact E.lenS (p := Xq6_0) (l := r5.length) (c := cq6_0) Try.underlying25 (AF_ev rfl tp)) ?_
          refine RW.soft Wd.a (v := .bool (decide (((r5.length : Nat) : Int) ≥ 16))) (by exact E.geq (k := .i64) (a := ((r5.length : Nat) : Int)) (b := 16) (AF_ev rfl tp) rfl) ?_
          refine RW.soft Wd.a (v := .bool (decide (((r5.length : Nat) : Int) ≥ 16))) (by exact E.move (AF_ev rfl tp)) ?_
          refine Or.elim (Bool.eq_false_or_eq_true (decide (((r5.length : Nat) : Int) ≥ 16))) (fun hw33 => ?_) (fun hw33 => ?_)
          · have hF := ct hw33 hF
            have hw33_ := hw33
            try simp only [decide_eq_true_eq, gt_iff_lt, ge_iff_le] at hw33_
            refine RW.soft (by exact Wd.yes (x := 65) rfl (AF_ev rfl (Eq.trans tp (congrArg Value.bool hw33)))) (v := .slice Xq6_0 r5.length cq6_0) (by exact E.move (AF_ev rfl (up rfl (up rfl (up rfl (up rfl hs2)))))) ?_
            refine RW.soft (by exact Wd.yes (x := 65) rfl (AF_ev rfl (up rfl (Eq.trans tp (congrArg Value.bool hw33))))) (v := .int .i64 ((r5.length : Nat) : Int)) (by exact E.lenS (p := Xq6_0) (l := r5.length) (c := cq6_0) Try.underlying25 (AF_ev rfl tp)) ?_
            refine RW.soft (by exact Wd.yes (x := 65) rfl (AF_ev rfl (up rfl (up rfl (Eq.trans tp (congrArg Value.bool hw33)))))) (v := .bool (decide (((r5.length : Nat) : Int) ≤ 80))) (by exact E.leq (k := .i64) (a := ((r5.length : Nat) : Int)) (b := 80) (AF_ev rfl tp) rfl) ?_
            refine RW.soft Wd.a (v := .bool (decide (((r5.length : Nat) : Int) ≤ 80))) (by exact E.pickT (AF_ev rfl (up rfl (up rfl (up rfl (Eq.trans tp (congrArg Value.bool hw33)))))) (AF_ev rfl tp)) ?_
            refine RW.soft Wd.a (v := .bool (decide (((r5.length : Nat) : Int) ≤ 80))) (by exact E.assign (AF_ev rfl tp)) ?_
            refine RW.nil ?_
            refine Th.n ?_
            have hst := hst.take (.there (.there (.there (.there (.there (.there .here))))))
            have hst := hst.take (.there (.there (.there (.there (.there (.there .here))))))
            have hst := hst.take (.there (.there (.there (.there (.there .here)))))
            have hst := hst.take (.there (.there (.there (.there (.there .here)))))
            have hst := hst.take (.there (.there (.there (.there (.there .here)))))
            have hst := (hst.take (.there (.there (.there (.there (.there .here)))))).drop
            have hst := (hst.take (.there (.there (.there (.there (.there .here)))))).drop
            exact ⟨(decide (((r5.length : Nat) : Int) ≤ 80)), hF, up rfl (up rfl (up rfl (up rfl (up rfl (up rfl (up rfl (up rfl (up rfl hs2)))))))), up rfl (up rfl (up rfl (up rfl (up rfl (up rfl (up rfl (up rfl (up rfl hs3)))))))), up rfl (up rfl (up rfl (up rfl (up rfl (up rfl (up rfl (up rfl (up rfl hs4)))))))), up rfl (up rfl (up rfl (up rfl (up rfl (up rfl (up rfl (up rfl (up rfl hs6)))))))), up rfl (up rfl (up rfl (up rfl (up rfl (up rfl (up rfl (up rfl (up rfl hs7)))))))), up rfl (up rfl (up rfl (up rfl (up rfl (up rfl (up rfl (up rfl (up rfl hs9)))))))), up rfl (up rfl (up rfl (up rfl (up rfl (up rfl (up rfl (up rfl (up rfl hs10)))))))), up rfl (up rfl (up rfl (up rfl (up rfl (up rfl (up rfl (up rfl (up rfl hs11)))))))), up rfl (up rfl (up rfl (up rfl (up rfl (up rfl (up rfl (up rfl (up rfl hs12)))))))), up rfl (up rfl (up rfl (up rfl (up rfl (up rfl (up rfl (up rfl (up rfl hs13)))))))), tp, hst⟩
          · have hF := cf hw33 hF
            have hw33_ := hw33
            try simp only [decide_eq_false_iff_not, Int.not_lt, Int.not_le, gt_iff_lt, ge_iff_le] at hw33_
            refine RW.pass (by exact Wd.no (x := 65) (b := false) rfl (AF_ev rfl (Eq.trans tp (congrArg Value.bool hw33))) rfl) ?_
            refine RW.pass (by exact Wd.no (x := 65) (b := false) rfl (AF_ev rfl (up rfl (Eq.trans tp (congrArg Value.bool hw33)))) rfl) ?_
            refine RW.pass (by exact Wd.no (x := 65) (b := false) rfl (AF_ev rfl (up rfl (up rfl (Eq.trans tp (congrArg Value.bool hw33))))) rfl) ?_
            refine RW.soft Wd.a (v := .bool false) (by exact E.pickF (AF_ev rfl (up rfl (up rfl (up rfl (Eq.trans tp (congrArg Value.bool hw33)))))) rfl) ?_
            refine RW.soft Wd.a (v := .bool false) (by exact E.assign (AF_ev rfl tp)) ?_
            refine RW.nil ?_
            refine Th.n ?_
            have hst := hst.take (.there (.there (.there (.there (.there (.there .here))))))
            have hst := hst.take (.there (.there (.there (.there (.there (.there .here))))))
            have hst := hst.take (.there (.there (.there (.there (.there .here)))))
            have hst := hst.take (.there (.there (.there (.there (.there .here)))))
            have hst := hst.take (.there (.there (.there (.there (.there .here)))))
            have hst := (hst.take (.there (.there (.there (.there (.there .here)))))).drop
            have hst := (hst.take (.there (.there (.there (.there (.there .here)))))).drop
            exact ⟨false, hF, up rfl (up rfl (up rfl (up rfl (up rfl (up rfl (up rfl (up rfl (up rfl hs2)))))))), up rfl (up rfl (up rfl (up rfl (up rfl (up rfl (up rfl (up rfl (up rfl hs3)))))))), up rfl (up rfl (up rfl (up rfl (up rfl (up rfl (up rfl (up rfl (up rfl hs4)))))))), up rfl (up rfl (up rfl (up rfl (up rfl (up rfl (up rfl (up rfl (up rfl hs6)))))))), up rfl (up rfl (up rfl (up rfl (up rfl (up rfl (up rfl (up rfl (up rfl hs7)))))))), up rfl (up rfl (up rfl (up rfl (up rfl (up rfl (up rfl (up rfl (up rfl hs9)))))))), up rfl (up rfl (up rfl (up rfl (up rfl (up rfl (up rfl (up rfl (up rfl hs10)))))))), up rfl (up rfl (up rfl (up rfl (up rfl (up rfl (up rfl (up rfl (up rfl hs11)))))))), up rfl (up rfl (up rfl (up rfl (up rfl (up rfl (up rfl (up rfl (up rfl hs12)))))))), up rfl (up rfl (up rfl (up rfl (up rfl (up rfl (up rfl (up rfl (up rfl hs13)))))))), tp, hst⟩
        rintro τ w ⟨j32, hF, hs2, hs3, hs4, hs6, hs7, hs9, hs10, hs11, hs12, hs13, hs14, hst⟩
        unfold EnvBlobs_j3 at hF
        refine CW.seqJ (fun τ w => ∃ (j34 : Bool), EnvBlobs_j4 r3 r5 j34 = some r ∧ τ 2 = .slice Xq6_0 r5.length cq6_0 ∧ τ 6 = .bool false ∧ τ 7 = .bool r3 ∧ τ 106 = .bool j34 ∧ St p w (A :: R)) ?_ ?_
        · skip
          refine CW.region ?_
          refine RW.soft Wd.a (v := .bool j32) (by exact E.move (AF_ev rfl hs14)) ?_
          refine RW.soft Wd.a (v := .bool j32) (by exact E.move (AF_ev rfl tp)) ?_
          refine Or.elim (Bool.eq_false_or_eq_true j32) (fun hw35 => ?_) (fun hw35 => ?_)
          · have hF := ct hw35 hF
            refine RW.soft (by exact Wd.yes (x := 71) rfl (AF_ev rfl (Eq.trans tp (congrArg Value.bool hw35)))) (v := .int .i64 r20.2.2.2.2) (by exact E.move (AF_ev rfl (up rfl (up rfl hs13)))) ?_
            refine RW.soft (by exact Wd.yes (x := 71) rfl (AF_ev rfl (up rfl (Eq.trans tp (congrArg Value.bool hw35))))) (v := .bool (r20.2.2.2.2 != 0)) (by exact E.neq (k := .i64) (a := r20.2.2.2.2) (b := 0) (AF_ev rfl tp) rfl) ?_
            refine RW.soft (by exact Wd.yes (x := 71) rfl (AF_ev rfl (up rfl (up rfl (Eq.trans tp (congrArg Value.bool hw35)))))) (v := .bool (r20.2.2.2.2 != 0)) (by exact E.move (AF_ev rfl tp)) ?_
            refine Or.elim (Bool.eq_false_or_eq_true (r20.2.2.2.2 != 0)) (fun hw36 => ?_) (fun hw36 => ?_)
            · have hF := ct hw36 hF
              have hw36_ := hw36
              try simp only [bne_iff_ne, ne_eq] at hw36_
              refine RW.pass (by exact Wd.no (x := 74) (b := true) rfl (AF_ev rfl (Eq.trans tp (congrArg Value.bool hw36))) rfl) ?_
              refine RW.pass (by exact Wd.no (x := 74) (b := true) rfl (AF_ev rfl (up rfl (Eq.trans tp (congrArg Value.bool hw36)))) rfl) ?_
              refine RW.pass (by exact Wd.no (x := 74) (b := true) rfl (AF_ev rfl (up rfl (up rfl (Eq.trans tp (congrArg Value.bool hw36))))) rfl) ?_
              refine RW.pass (by exact Wd.no (x := 74) (b := true) rfl (AF_ev rfl (up rfl (up rfl (up rfl (Eq.trans tp (congrArg Value.bool hw36)))))) rfl) ?_
              refine RW.soft (by exact Wd.yes (x := 71) rfl (AF_ev rfl (up rfl (up rfl (up rfl (up rfl (up rfl (up rfl (up rfl (Eq.trans tp (congrArg Value.bool hw35))))))))))) (v := .bool true) (by exact E.pickT (AF_ev rfl (up rfl (up rfl (up rfl (up rfl (Eq.trans tp (congrArg Value.bool hw36))))))) rfl) ?_
              refine RW.soft (by exact Wd.yes (x := 71) rfl (AF_ev rfl (up rfl (up rfl (up rfl (up rfl (up rfl (up rfl (up rfl (up rfl (Eq.trans tp (congrArg Value.bool hw35)))))))))))) (v := .bool true) (by exact E.move (AF_ev rfl tp)) ?_
              refine RW.pass (by exact Wd.no (x := 80) (b := true) rfl (AF_ev rfl tp) rfl) ?_
              refine RW.pass (by exact Wd.no (x := 80) (b := true) rfl (AF_ev rfl (up rfl tp)) rfl) ?_
              refine RW.pass (by exact Wd.no (x := 80) (b := true) rfl (AF_ev rfl (up rfl (up rfl tp))) rfl) ?_
              refine RW.pass (by exact Wd.no (x := 80) (b := true) rfl (AF_ev rfl (up rfl (up rfl (up rfl tp)))) rfl) ?_
              refine RW.soft (by exact Wd.yes (x := 71) rfl (AF_ev rfl (up rfl (up rfl (up rfl (up rfl (up rfl (up rfl (up rfl (up rfl (up rfl (up rfl (up rfl (up rfl (up rfl (Eq.trans tp (congrArg Value.bool hw35))))))))))))))))) (v := .bool true) (by exact E.pickT (AF_ev rfl (up rfl (up rfl (up rfl (up rfl tp))))) rfl) ?_
              refine RW.soft (by exact Wd.yes (x := 71) rfl (AF_ev rfl (up rfl (up rfl (up rfl (up rfl (up rfl (up rfl (up rfl (up rfl (up rfl (up rfl (up rfl (up rfl (up rfl (up rfl (Eq.trans tp (congrArg Value.bool hw35)))))))))))))))))) (v := .bool true) (by exact E.move (AF_ev rfl tp)) ?_
              refine RW.pass (by exact Wd.no (x := 86) (b := true) rfl (AF_ev rfl tp) rfl) ?_
              refine RW.pass (by exact Wd.no (x := 86) (b := true) rfl (AF_ev rfl (up rfl tp)) rfl) ?_
              refine RW.pass (by exact Wd.no (x := 86) (b := true) rfl (AF_ev rfl (up rfl (up rfl tp))) rfl) ?_
              refine RW.soft (by exact Wd.yes (x := 71) rfl (AF_ev rfl (up rfl (up rfl (up rfl (up rfl (up rfl (up rfl (up rfl (up rfl (up rfl (up rfl (up rfl (up rfl (up rfl (up rfl (up rfl (up rfl (up rfl (up rfl (Eq.trans tp (congrArg Value.bool hw35)))))))))))))))))))))) (v := .bool true) (by exact E.pickT (AF_ev rfl (up rfl (up rfl (up rfl tp)))) rfl) ?_
              refine RW.soft (by exact Wd.yes (x := 71) rfl (AF_ev rfl (up rfl (up rfl (up rfl (up rfl (up rfl (up rfl (up rfl (up rfl (up rfl (up rfl (up rfl (up rfl (up rfl (up rfl (up rfl (up rfl (up rfl (up rfl (up rfl (Eq.trans tp (congrArg Value.bool hw35))))))))))))))))))))))) (v := .bool true) (by exact E.move (AF_ev rfl tp)) ?_
              refine RW.pass (by exact Wd.no (x := 91) (b := true) rfl (AF_ev rfl tp) rfl) ?_
              refine RW.pass (by exact Wd.no (x := 91) (b := true) rfl (AF_ev rfl (up rfl tp)) rfl) ?_
              refine RW.pass (by exact Wd.no (x := 91) (b := true) rfl (AF_ev rfl (up rfl (up rfl tp))) rfl) ?_
              refine RW.pass (by exact Wd.no (x := 91) (b := true) rfl (AF_ev rfl (up rfl (up rfl (up rfl tp)))) rfl) ?_
              refine RW.pass (by exact Wd.no (x := 91) (b := true) rfl (AF_ev rfl (up rfl (up rfl (up rfl (up rfl tp))))) rfl) ?_
              refine RW.soft (by exact Wd.yes (x := 71) rfl (AF_ev rfl (up rfl (up rfl (up rfl (up rfl (up rfl (up rfl (up rfl (up rfl (up rfl (up rfl (up rfl (up rfl (up rfl (up rfl (up rfl (up rfl (up rfl (up rfl (up rfl (up rfl (up rfl (up rfl (up rfl (up rfl (up rfl (Eq.trans tp (congrArg Value.bool hw35))))))))))))))))))))))))))))) (v := .bool true) (by exact E.pickT (AF_ev rfl (up rfl (up rfl (up rfl (up rfl (up rfl tp)))))) rfl) ?_
              refine RW.soft Wd.a (v := .bool true) (by exact E.pickT (AF_ev rfl (up rfl (up rfl (up rfl (up rfl (up rfl (up rfl (up rfl (up rfl (up rfl (up rfl (up rfl (up rfl (up rfl (up rfl (up rfl (up rfl (up rfl (up rfl (up rfl (up rfl (up rfl (up rfl (up rfl (up rfl (up rfl (up rfl (Eq.trans tp (congrArg Value.bool hw35))))))))))))))))))))))))))))) (AF_ev rfl tp)) ?_
              refine RW.soft Wd.a (v := .bool true) (by exact E.move (AF_ev rfl tp)) ?_
              refine RW.pass (by exact Wd.no (x := 99) (b := true) rfl (AF_ev rfl tp) rfl) ?_
              refine RW.pass (by exact Wd.no (x := 99) (b := true) rfl (AF_ev rfl (up rfl tp)) rfl) ?_
              refine RW.pass (by exact Wd.no (x := 99) (b := true) rfl (AF_ev rfl (up rfl (up rfl tp))) rfl) ?_
              refine RW.pass (by exact Wd.u (x := 102) rfl (AF_ev rfl tp)) ?_
              refine RW.pass (by exact Wd.u (x := 102) rfl (AF_ev rfl (up rfl tp))) ?_
              refine RW.pass (by exact Wd.no (x := 99) (b := true) rfl (AF_ev rfl (up rfl (up rfl (up rfl (up rfl (up rfl tp)))))) rfl) ?_
              refine RW.soft Wd.a (v := .bool true) (by exact E.pickT (AF_ev rfl (up rfl (up rfl (up rfl (up rfl (up rfl (up rfl tp))))))) rfl) ?_
              refine RW.nil ?_
              refine Th.n ?_
              have hst := (hst.take (.there .here)).drop
              have hst := (hst.take (.there .here)).drop
              have hst := (hst.take (.there .here)).drop
              have hst := (hst.take (.there .here)).drop
              exact ⟨true, hF, up rfl (up rfl (up rfl (up rfl (up rfl (up rfl (up rfl (up rfl (up rfl (up rfl (up rfl (up rfl (up rfl (up rfl (up rfl (up rfl (up rfl (up rfl (up rfl (up rfl (up rfl (up rfl (up rfl (up rfl (up rfl (up rfl (up rfl (up rfl (up rfl (up rfl (up rfl (up rfl (up rfl (up rfl (up rfl (up rfl (up rfl hs2)))))))))))))))))))))))))))))))))))), up rfl (up rfl (up rfl (up rfl (up rfl (up rfl (up rfl (up rfl (up rfl (up rfl (up rfl (up rfl (up rfl (up rfl (up rfl (up rfl (up rfl (up rfl (up rfl (up rfl (up rfl (up rfl (up rfl (up rfl (up rfl (up rfl (up rfl (up rfl (up rfl (up rfl (up rfl (up rfl (up rfl (up rfl (up rfl (up rfl (up rfl hs6)))))))))))))))))))))))))))))))))))), up rfl (up rfl (up rfl (up rfl (up rfl (up rfl (up rfl (up rfl (up rfl (up rfl (up rfl (up rfl (up rfl (up rfl (up rfl (up rfl (up rfl (up rfl (up rfl (up rfl (up rfl (up rfl (up rfl (up rfl (up rfl (up rfl (up rfl (up rfl (up rfl (up rfl (up rfl (up rfl (up rfl (up rfl (up rfl (up rfl (up rfl hs7)))))))))))))))))))))))))))))))))))), tp, hst⟩
            · have hF := cf hw36 hF
              have hw36_ := hw36
              try simp only [bne_eq_false_iff_eq] at hw36_
              refine RW.soft (by exact Wd.yes (x := 74) rfl (AF_ev rfl (Eq.trans tp (congrArg Value.bool hw36)))) (v := .int .i64 r20.1) (by exact E.move (AF_ev rfl (up rfl (up rfl (up rfl (up rfl (up rfl hs9))))))) ?_
              refine RW.soft (by exact Wd.yes (x := 74) rfl (AF_ev rfl (up rfl (Eq.trans tp (congrArg Value.bool hw36))))) (v := .pointer (some ⟨b1, 0, none⟩)) (by exact E.indexAddrA (b := b1) (o := 0) (i := 0) Try.underlying22 sz3 (AF_ev rfl (up rfl (up rfl (up rfl (up rfl (up rfl (up rfl hs3))))))) rfl (by omega) (by omega) (by omega)) ?_
              obtain ⟨z37, h_z37, hF⟩ := lp hF
              obtain ⟨hg38, hF⟩ := pl hF
              refine RW.soft (by exact Wd.yes (x := 74) rfl (AF_ev rfl (up rfl (up rfl (Eq.trans tp (congrArg Value.bool hw36)))))) (v := .int .i64 z37) (by exact E.v (E.load (a := ⟨b1, 0, none⟩) Try.underlying3 rfl (AF_ev rfl tp) (hst.cellL (.there (.there (.there (.there .here)))) (getF (f := bi64) (d := (0 : Int)) (by rw [hl_t]; omega)))) (by rw [h_z37])) ?_
              refine RW.soft (by exact Wd.yes (x := 74) rfl (AF_ev rfl (up rfl (up rfl (up rfl (Eq.trans tp (congrArg Value.bool hw36))))))) (v := .bool (r20.1 != z37)) (by exact E.neq (k := .i64) (a := r20.1) (b := z37) (AF_ev rfl (up rfl (up rfl tp))) (AF_ev rfl tp)) ?_
              refine RW.soft (by exact Wd.yes (x := 71) rfl (AF_ev rfl (up rfl (up rfl (up rfl (up rfl (up rfl (up rfl (up rfl (Eq.trans tp (congrArg Value.bool hw35))))))))))) (v := .bool (r20.1 != z37)) (by exact E.pickF (AF_ev rfl (up rfl (up rfl (up rfl (up rfl (Eq.trans tp (congrArg Value.bool hw36))))))) (AF_ev rfl tp)) ?_
              refine RW.soft (by exact Wd.yes (x := 71) rfl (AF_ev rfl (up rfl (up rfl (up rfl (up rfl (up rfl (up rfl (up rfl (up rfl (Eq.trans tp (congrArg Value.bool hw35)))))))))))) (v := .bool (r20.1 != z37)) (by exact E.move (AF_ev rfl tp)) ?_
              refine Or.elim (Bool.eq_false_or_eq_true (r20.1 != z37)) (fun hw39 => ?_) (fun hw39 => ?_)
              · have hF := ct hw39 hF
                have hw39_ := hw39
                try simp only [bne_iff_ne, ne_eq] at hw39_
                refine RW.pass (by exact Wd.no (x := 80) (b := true) rfl (AF_ev rfl (Eq.trans tp (congrArg Value.bool hw39))) rfl) ?_
                refine RW.pass (by exact Wd.no (x := 80) (b := true) rfl (AF_ev rfl (up rfl (Eq.trans tp (congrArg Value.bool hw39)))) rfl) ?_
                refine RW.pass (by exact Wd.no (x := 80) (b := true) rfl (AF_ev rfl (up rfl (up rfl (Eq.trans tp (congrArg Value.bool hw39))))) rfl) ?_
                refine RW.pass (by exact Wd.no (x := 80) (b := true) rfl (AF_ev rfl (up rfl (up rfl (up rfl (Eq.trans tp (congrArg Value.bool hw39)))))) rfl) ?_
                refine RW.soft (by exact Wd.yes (x := 71) rfl (AF_ev rfl (up rfl (up rfl (up rfl (up rfl (up rfl (up rfl (up rfl (up rfl (up rfl (up rfl (up rfl (up rfl (up rfl (Eq.trans tp (congrArg Value.bool hw35))))))))))))))))) (v := .bool true) (by exact E.pickT (AF_ev rfl (up rfl (up rfl (up rfl (up rfl (Eq.trans tp (congrArg Value.bool hw39))))))) rfl) ?_
                refine RW.soft (by exact Wd.yes (x := 71) rfl (AF_ev rfl (up rfl (up rfl (up rfl (up rfl (up rfl (up rfl (up rfl (up rfl (up rfl (up rfl (up rfl (up rfl (up rfl (up rfl (Eq.trans tp (congrArg Value.bool hw35)))))))))))))))))) (v := .bool true) (by exact E.move (AF_ev rfl tp)) ?_
                refine RW.pass (by exact Wd.no (x := 86) (b := true) rfl (AF_ev rfl tp) rfl) ?_
                refine RW.pass (by exact Wd.no (x := 86) (b := true) rfl (AF_ev rfl (up rfl tp)) rfl) ?_
                refine RW.pass (by exact Wd.no (x := 86) (b := true) rfl (AF_ev rfl (up rfl (up rfl tp))) rfl) ?_
                refine RW.soft (by exact Wd.yes (x := 71) rfl (AF_ev rfl (up rfl (up rfl (up rfl (up rfl (up rfl (up rfl (up rfl (up rfl (up rfl (up rfl (up rfl (up rfl (up rfl (up rfl (up rfl (up rfl (up rfl (up rfl (Eq.trans tp (congrArg Value.bool hw35)))))))))))))))))))))) (v := .bool true) (by exact E.pickT (AF_ev rfl (up rfl (up rfl (up rfl tp)))) rfl) ?_
                refine RW.soft (by exact Wd.yes (x := 71) rfl (AF_ev rfl (up rfl (up rfl (up rfl (up rfl (up rfl (up rfl (up rfl (up rfl (up rfl (up rfl (up rfl (up rfl (up rfl (up rfl (up rfl (up rfl (up rfl (up rfl (up rfl (Eq.trans tp (congrArg Value.bool hw35))))))))))))))))))))))) (v := .bool true) (by exact E.move (AF_ev rfl tp)) ?_
                refine RW.pass (by exact Wd.no (x := 91) (b := true) rfl (AF_ev rfl tp) rfl) ?_
                refine RW.pass (by exact Wd.no (x := 91) (b := true) rfl (AF_ev rfl (up rfl tp)) rfl) ?_
                refine RW.pass (by exact Wd.no (x := 91) (b := true) rfl (AF_ev rfl (up rfl (up rfl tp))) rfl) ?_
                refine RW.pass (by exact Wd.no (x := 91) (b := true) rfl (AF_ev rfl (up rfl (up rfl (up rfl tp)))) rfl) ?_
                refine RW.pass (by exact Wd.no (x := 91) (b := true) rfl (AF_ev rfl (up rfl (up rfl (up rfl (up rfl tp))))) rfl) ?_
                refine RW.soft (by exact Wd.yes (x := 71) rfl (AF_ev rfl (up rfl (up rfl (up rfl (up rfl (up rfl (up rfl (up rfl (up rfl (up rfl (up rfl (up rfl (up rfl (up rfl (up rfl (up rfl (up rfl (up rfl (up rfl (up rfl (up rfl (up rfl (up rfl (up rfl (up rfl (up rfl (Eq.trans tp (congrArg Value.bool hw35))))))))))))))))))))))))))))) (v := .bool true) (by exact E.pickT (AF_ev rfl (up rfl (up rfl (up rfl (up rfl (up rfl tp)))))) rfl) ?_
                refine RW.soft Wd.a (v := .bool true) (by exact E.pickT (AF_ev rfl (up rfl (up rfl (up rfl (up rfl (up rfl (up rfl (up rfl (up rfl (up rfl (up rfl (up rfl (up rfl (up rfl (up rfl (up rfl (up rfl (up rfl (up rfl (up rfl (up rfl (up rfl (up rfl (up rfl (up rfl (up rfl (up rfl (Eq.trans tp (congrArg Value.bool hw35))))))))))))))))))))))))))))) (AF_ev rfl tp)) ?_
                refine RW.soft Wd.a (v := .bool true) (by exact E.move (AF_ev rfl tp)) ?_
                refine RW.pass (by exact Wd.no (x := 99) (b := true) rfl (AF_ev rfl tp) rfl) ?_
                refine RW.pass (by exact Wd.no (x := 99) (b := true) rfl (AF_ev rfl (up rfl tp)) rfl) ?_
                refine RW.pass (by exact Wd.no (x := 99) (b := true) rfl (AF_ev rfl (up rfl (up rfl tp))) rfl) ?_
                refine RW.pass (by exact Wd.u (x := 102) rfl (AF_ev rfl tp)) ?_
                refine RW.pass (by exact Wd.u (x := 102) rfl (AF_ev rfl (up rfl tp))) ?_
                refine RW.pass (by exact Wd.no (x := 99) (b := true) rfl (AF_ev rfl (up rfl (up rfl (up rfl (up rfl (up rfl tp)))))) rfl) ?_
                refine RW.soft Wd.a (v := .bool true) (by exact E.pickT (AF_ev rfl (up rfl (up rfl (up rfl (up rfl (up rfl (up rfl tp))))))) rfl) ?_
                refine RW.nil ?_
                refine Th.n ?_
                have hst := (hst.take (.there .here)).drop
                have hst := (hst.take (.there .here)).drop
                have hst := (hst.take (.there .here)).drop
                have hst := (hst.take (.there .here)).drop
                exact ⟨true, hF, up rfl (up rfl (up rfl (up rfl (up rfl (up rfl (up rfl (up rfl (up rfl (up rfl (up rfl (up rfl (up rfl (up rfl (up rfl (up rfl (up rfl (up rfl (up rfl (up rfl (up rfl (up rfl (up rfl (up rfl (up rfl (up rfl (up rfl (up rfl (up rfl (up rfl (up rfl (up rfl (up rfl (up rfl (up rfl (up rfl (up rfl hs2)))))))))))))))))))))))))))))))))))), up rfl (up rfl (up rfl (up rfl (up rfl (up rfl (up rfl (up rfl (up rfl (up rfl (up rfl (up rfl (up rfl (up rfl (up rfl (up rfl (up rfl (up rfl (up rfl (up rfl (up rfl (up rfl (up rfl (up rfl (up rfl (up rfl (up rfl (up rfl (up rfl (up rfl (up rfl (up rfl (up rfl (up rfl (up rfl (up rfl (up rfl hs6)))))))))))))))))))))))))))))))))))), up rfl (up rfl (up rfl (up rfl (up rfl (up rfl (up rfl (up rfl (up rfl (up rfl (up rfl (up rfl (up rfl (up rfl (up rfl (up rfl (up rfl (up rfl (up rfl (up rfl (up rfl (up rfl (up rfl (up rfl (up rfl (up rfl (up rfl (up rfl (up rfl (up rfl (up rfl (up rfl (up rfl (up rfl (up rfl (up rfl (up rfl hs7)))))))))))))))))))))))))))))))))))), tp, hst⟩
              · have hF := cf hw39 hF
                have hw39_ := hw39
                try simp only [bne_eq_false_iff_eq] at hw39_
                refine RW.soft (by exact Wd.yes (x := 80) rfl (AF_ev rfl (Eq.trans tp (congrArg Value.bool hw39)))) (v := .int .i64 r20.2.1) (by exact E.move (AF_ev rfl (up rfl (up rfl (up rfl (up rfl (up rfl (up rfl (up rfl (up rfl (up rfl (up rfl (up rfl hs10))))))))))))) ?_
                refine RW.soft (by exact Wd.yes (x := 80) rfl (AF_ev rfl (up rfl (Eq.trans tp (congrArg Value.bool hw39))))) (v := .pointer (some ⟨b1, 1, none⟩)) (by exact E.indexAddrA (b := b1) (o := 0) (i := 1) Try.underlying22 sz3 (AF_ev rfl (up rfl (up rfl (up rfl (up rfl (up rfl (up rfl (up rfl (up rfl (up rfl (up rfl (up rfl (up rfl hs3))))))))))))) rfl (by omega) (by omega) (by omega)) ?_
                obtain ⟨z40, h_z40, hF⟩ := lp hF
                obtain ⟨hg41, hF⟩ := pl hF
                refine RW.soft (by exact Wd.yes (x := 80) rfl (AF_ev rfl (up rfl (up rfl (Eq.trans tp (congrArg Value.bool hw39)))))) (v := .int .i64 z40) (by exact E.v (E.load (a := ⟨b1, 1, none⟩) Try.underlying3 rfl (AF_ev rfl tp) (hst.cellL (.there (.there (.there (.there .here)))) (getF (f := bi64) (d := (0 : Int)) (by rw [hl_t]; omega)))) (by rw [h_z40])) ?_
                refine RW.soft (by exact Wd.yes (x := 80) rfl (AF_ev rfl (up rfl (up rfl (up rfl (Eq.trans tp (congrArg Value.bool hw39))))))) (v := .bool (r20.2.1 != z40)) (by exact E.neq (k := .i64) (a := r20.2.1) (b := z40) (AF_ev rfl (up rfl (up rfl tp))) (AF_ev rfl tp)) ?_
                refine RW.soft (by exact Wd.yes (x := 71) rfl (AF_ev rfl (up rfl (up rfl (up rfl (up rfl (up rfl (up rfl (up rfl (up rfl (up rfl (up rfl (up rfl (up rfl (up rfl (Eq.trans tp (congrArg Value.bool hw35))))))))))))))))) (v := .bool (r20.2.1 != z40)) (by exact E.pickF (AF_ev rfl (up rfl (up rfl (up rfl (up rfl (Eq.trans tp (congrArg Value.bool hw39))))))) (AF_ev rfl tp)) ?_
                refine RW.soft (by exact Wd.yes (x := 71) rfl (AF_ev rfl (up rfl (up rfl (up rfl (up rfl (up rfl (up rfl (up rfl (up rfl (up rfl (up rfl (up rfl (up rfl (up rfl (up rfl (Eq.trans tp (congrArg Value.bool hw35)))))))))))))))))) (v := .bool (r20.2.1 != z40)) (by exact E.move (AF_ev rfl tp)) ?_
                refine Or.elim (Bool.eq_false_or_eq_true (r20.2.1 != z40)) (fun hw42 => ?_) (fun hw42 => ?_)
                · have hF := ct hw42 hF
                  have hw42_ := hw42
                  try simp only [bne_iff_ne, ne_eq] at hw42_
                  refine RW.pass (by exact Wd.no (x := 86) (b := true) rfl (AF_ev rfl (Eq.trans tp (congrArg Value.bool hw42))) rfl) ?_
                  refine RW.pass (by exact Wd.no (x := 86) (b := true) rfl (AF_ev rfl (up rfl (Eq.trans tp (congrArg Value.bool hw42)))) rfl) ?_
                  refine RW.pass (by exact Wd.no (x := 86) (b := true) rfl (AF_ev rfl (up rfl (up rfl (Eq.trans tp (congrArg Value.bool hw42))))) rfl) ?_
                  refine RW.soft (by exact Wd.yes (x := 71) rfl (AF_ev rfl (up rfl (up rfl (up rfl (up rfl (up rfl (up rfl (up rfl (up rfl (up rfl (up rfl (up rfl (up rfl (up rfl (up rfl (up rfl (up rfl (up rfl (up rfl (Eq.trans tp (congrArg Value.bool hw35)))))))))))))))))))))) (v := .bool true) (by exact E.pickT (AF_ev rfl (up rfl (up rfl (up rfl (Eq.trans tp (congrArg Value.bool hw42)))))) rfl) ?_
                  refine RW.soft (by exact Wd.yes (x := 71) rfl (AF_ev rfl (up rfl (up rfl (up rfl (up rfl (up rfl (up rfl (up rfl (up rfl (up rfl (up rfl (up rfl (up rfl (up rfl (up rfl (up rfl (up rfl (up rfl (up rfl (up rfl (Eq.trans tp (congrArg Value.bool hw35))))))))))))))))))))))) (v := .bool true) (by exact E.move (AF_ev rfl tp)) ?_
                  refine RW.pass (by exact Wd.no (x := 91) (b := true) rfl (AF_ev rfl tp) rfl) ?_
                  refine RW.pass (by exact Wd.no (x := 91) (b := true) rfl (AF_ev rfl (up rfl tp)) rfl) ?_
                  refine RW.pass (by exact Wd.no (x := 91) (b := true) rfl (AF_ev rfl (up rfl (up rfl tp))) rfl) ?_
                  refine RW.pass (by exact Wd.no (x := 91) (b := true) rfl (AF_ev rfl (up rfl (up rfl (up rfl tp)))) rfl) ?_
                  refine RW.pass (by exact Wd.no (x := 91) (b := true) rfl (AF_ev rfl (up rfl (up rfl (up rfl (up rfl tp))))) rfl) ?_
                  refine RW.soft (by exact Wd.yes (x := 71) rfl (AF_ev rfl (up rfl (up rfl (up rfl (up rfl (up rfl (up rfl (up rfl (up rfl (up rfl (up rfl (up rfl (up rfl (up rfl (up rfl (up rfl (up rfl (up rfl (up rfl (up rfl (up rfl (up rfl (up rfl (up rfl (up rfl (up rfl (Eq.trans tp (congrArg Value.bool hw35))))))))))))))))))))))))))))) (v := .bool true) (by exact E.pickT (AF_ev rfl (up rfl (up rfl (up rfl (up rfl (up rfl tp)))))) rfl) ?_
                  refine RW.soft Wd.a (v := .bool true) (by exact E.pickT (AF_ev rfl (up rfl (up rfl (up rfl (up rfl (up rfl (up rfl (up rfl (up rfl (up rfl (up rfl (up rfl (up rfl (up rfl (up rfl (up rfl (up rfl (up rfl (up rfl (up rfl (up rfl (up rfl (up rfl (up rfl (up rfl (up rfl (up rfl (Eq.trans tp (congrArg Value.bool hw35))))))))))))))))))))))))))))) (AF_ev rfl tp)) ?_
                  refine RW.soft Wd.a (v := .bool true) (by exact E.move (AF_ev rfl tp)) ?_
                  refine RW.pass (by exact Wd.no (x := 99) (b := true) rfl (AF_ev rfl tp) rfl) ?_
                  refine RW.pass (by exact Wd.no (x := 99) (b := true) rfl (AF_ev rfl (up rfl tp)) rfl) ?_
                  refine RW.pass (by exact Wd.no (x := 99) (b := true) rfl (AF_ev rfl (up rfl (up rfl tp))) rfl) ?_
                  refine RW.pass (by exact Wd.u (x := 102) rfl (AF_ev rfl tp)) ?_
                  refine RW.pass (by exact Wd.u (x := 102) rfl (AF_ev rfl (up rfl tp))) ?_
                  refine RW.pass (by exact Wd.no (x := 99) (b := true) rfl (AF_ev rfl (up rfl (up rfl (up rfl (up rfl (up rfl tp)))))) rfl) ?_
                  refine RW.soft Wd.a (v := .bool true) (by exact E.pickT (AF_ev rfl (up rfl (up rfl (up rfl (up rfl (up rfl (up rfl tp))))))) rfl) ?_
                  refine RW.nil ?_
                  refine Th.n ?_
                  have hst := (hst.take (.there .here)).drop
                  have hst := (hst.take (.there .here)).drop
                  have hst := (hst.take (.there .here)).drop
                  have hst := (hst.take (.there .here)).drop
                  exact ⟨true, hF, up rfl (up rfl (up rfl (up rfl (up rfl (up rfl (up rfl (up rfl (up rfl (up rfl (up rfl (up rfl (up rfl (up rfl (up rfl (up rfl (up rfl (up rfl (up rfl (up rfl (up rfl (up rfl (up rfl (up rfl (up rfl (up rfl (up rfl (up rfl (up rfl (up rfl (up rfl (up rfl (up rfl (up rfl (up rfl (up rfl (up rfl hs2)))))))))))))))))))))))))))))))))))), up rfl (up rfl (up rfl (up rfl (up rfl (up rfl (up rfl (up rfl (up rfl (up rfl (up rfl (up rfl (up rfl (up rfl (up rfl (up rfl (up rfl (up rfl (up rfl (up rfl (up rfl (up rfl (up rfl (up rfl (up rfl (up rfl (up rfl (up rfl (up rfl (up rfl (up rfl (up rfl (up rfl (up rfl (up rfl (up rfl (up rfl hs6)))))))))))))))))))))))))))))))))))), up rfl (up rfl (up rfl (up rfl (up rfl (up rfl (up rfl (up rfl (up rfl (up rfl (up rfl (up rfl (up rfl (up rfl (up rfl (up rfl (up rfl (up rfl (up rfl (up rfl (up rfl (up rfl (up rfl (up rfl (up rfl (up rfl (up rfl (up rfl (up rfl (up rfl (up rfl (up rfl (up rfl (up rfl (up rfl (up rfl (up rfl hs7)))))))))))))))))))))))))))))))))))), tp, hst⟩
                · have hF := cf hw42 hF
                  have hw42_ := hw42
                  try simp only [bne_eq_false_iff_eq] at hw42_
                  refine RW.soft (by exact Wd.yes (x := 86) rfl (AF_ev rfl (Eq.trans tp (congrArg Value.bool hw42)))) (v := .agg ((r20.2.2.1.map bu8)).toArray) (by exact E.loadN (b := b22) (o := 0) (cs := (r20.2.2.1.map bu8)) Try.underlying24 rfl sz24 (AF_ev rfl (up rfl (up rfl (up rfl (up rfl (up rfl (up rfl (up rfl (up rfl (up rfl (up rfl (up rfl (up rfl (up rfl (up rfl (up rfl (up rfl (up rfl hs11)))))))))))))))))) ((List.length_map _).trans hl_q21_2) (St.cellsOf hst (.there .here) allF)) ?_
                  refine RW.soft (by exact Wd.yes (x := 86) rfl (AF_ev rfl (up rfl (Eq.trans tp (congrArg Value.bool hw42))))) (v := .agg ((o.map bu8)).toArray) (by exact E.loadN (b := b2) (o := 0) (cs := (o.map bu8)) Try.underlying24 rfl sz24 (AF_ev rfl (up rfl (up rfl (up rfl (up rfl (up rfl (up rfl (up rfl (up rfl (up rfl (up rfl (up rfl (up rfl (up rfl (up rfl (up rfl (up rfl (up rfl (up rfl hs4))))))))))))))))))) ((List.length_map _).trans hl_o) (St.cellsOf hst (.there (.there (.there .here))) allF)) ?_
                  refine RW.soft (by exact Wd.yes (x := 86) rfl (AF_ev rfl (up rfl (up rfl (Eq.trans tp (congrArg Value.bool hw42)))))) (v := .bool (r20.2.2.1 != o)) (by exact E.neqA8 (a := r20.2.2.1) (b := o) Try.underlying24 Try.underlying5 (by kernel_rfl) (by kernel_rfl) (by kernel_rfl) (by kernel_rfl) hl_q21_2 hl_o (AF_ev rfl (up rfl tp)) (AF_ev rfl tp)) ?_
                  refine RW.soft (by exact Wd.yes (x := 71) rfl (AF_ev rfl (up rfl (up rfl (up rfl (up rfl (up rfl (up rfl (up rfl (up rfl (up rfl (up rfl (up rfl (up rfl (up rfl (up rfl (up rfl (up rfl (up rfl (up rfl (Eq.trans tp (congrArg Value.bool hw35)))))))))))))))))))))) (v := .bool (r20.2.2.1 != o)) (by exact E.pickF (AF_ev rfl (up rfl (up rfl (up rfl (Eq.trans tp (congrArg Value.bool hw42)))))) (AF_ev rfl tp)) ?_
                  refine RW.soft (by exact Wd.yes (x := 71) rfl (AF_ev rfl (up rfl (up rfl (up rfl (up rfl (up rfl (up rfl (up rfl (up rfl (up rfl (up rfl (up rfl (up rfl (up rfl (up rfl (up rfl (up rfl (up rfl (up rfl (up rfl (Eq.trans tp (congrArg Value.bool hw35))))))))))))))))))))))) (v := .bool (r20.2.2.1 != o)) (by exact E.move (AF_ev rfl tp)) ?_
                  refine Or.elim (Bool.eq_false_or_eq_true (r20.2.2.1 != o)) (fun hw43 => ?_) (fun hw43 => ?_)
                  · have hF := ct hw43 hF
                    have hw43_ := hw43
                    try simp only [bne_iff_ne, ne_eq] at hw43_
                    refine RW.pass (by exact Wd.no (x := 91) (b := true) rfl (AF_ev rfl (Eq.trans tp (congrArg Value.bool hw43))) rfl) ?_
                    refine RW.pass (by exact Wd.no (x := 91) (b := true) rfl (AF_ev rfl (up rfl (Eq.trans tp (congrArg Value.bool hw43)))) rfl) ?_
                    refine RW.pass (by exact Wd.no (x := 91) (b := true) rfl (AF_ev rfl (up rfl (up rfl (Eq.trans tp (congrArg Value.bool hw43))))) rfl) ?_
                    refine RW.pass (by exact Wd.no (x := 91) (b := true) rfl (AF_ev rfl (up rfl (up rfl (up rfl (Eq.trans tp (congrArg Value.bool hw43)))))) rfl) ?_
                    refine RW.pass (by exact Wd.no (x := 91) (b := true) rfl (AF_ev rfl (up rfl (up rfl (up rfl (up rfl (Eq.trans tp (congrArg Value.bool hw43))))))) rfl) ?_
                    refine RW.soft (by exact Wd.yes (x := 71) rfl (AF_ev rfl (up rfl (up rfl (up rfl (up rfl (up rfl (up rfl (up rfl (up rfl (up rfl (up rfl (up rfl (up rfl (up rfl (up rfl (up rfl (up rfl (up rfl (up rfl (up rfl (up rfl (up rfl (up rfl (up rfl (up rfl (up rfl (Eq.trans tp (congrArg Value.bool hw35))))))))))))))))))))))))))))) (v := .bool true) (by exact E.pickT (AF_ev rfl (up rfl (up rfl (up rfl (up rfl (up rfl (Eq.trans tp (congrArg Value.bool hw43)))))))) rfl) ?_
                    refine RW.soft Wd.a (v := .bool true) (by exact E.pickT (AF_ev rfl (up rfl (up rfl (up rfl (up rfl (up rfl (up rfl (up rfl (up rfl (up rfl (up rfl (up rfl (up rfl (up rfl (up rfl (up rfl (up rfl (up rfl (up rfl (up rfl (up rfl (up rfl (up rfl (up rfl (up rfl (up rfl (up rfl (Eq.trans tp (congrArg Value.bool hw35))))))))))))))))))))))))))))) (AF_ev rfl tp)) ?_
                    refine RW.soft Wd.a (v := .bool true) (by exact E.move (AF_ev rfl tp)) ?_
                    refine RW.pass (by exact Wd.no (x := 99) (b := true) rfl (AF_ev rfl tp) rfl) ?_
                    refine RW.pass (by exact Wd.no (x := 99) (b := true) rfl (AF_ev rfl (up rfl tp)) rfl) ?_
                    refine RW.pass (by exact Wd.no (x := 99) (b := true) rfl (AF_ev rfl (up rfl (up rfl tp))) rfl) ?_
                    refine RW.pass (by exact Wd.u (x := 102) rfl (AF_ev rfl tp)) ?_
                    refine RW.pass (by exact Wd.u (x := 102) rfl (AF_ev rfl (up rfl tp))) ?_
                    refine RW.pass (by exact Wd.no (x := 99) (b := true) rfl (AF_ev rfl (up rfl (up rfl (up rfl (up rfl (up rfl tp)))))) rfl) ?_
                    refine RW.soft Wd.a (v := .bool true) (by exact E.pickT (AF_ev rfl (up rfl (up rfl (up rfl (up rfl (up rfl (up rfl tp))))))) rfl) ?_
                    refine RW.nil ?_
                    refine Th.n ?_
                    have hst := (hst.take (.there .here)).drop
                    have hst := (hst.take (.there .here)).drop
                    have hst := (hst.take (.there .here)).drop
                    have hst := (hst.take (.there .here)).drop
                    exact ⟨true, hF, up rfl (up rfl (up rfl (up rfl (up rfl (up rfl (up rfl (up rfl (up rfl (up rfl (up rfl (up rfl (up rfl (up rfl (up rfl (up rfl (up rfl (up rfl (up rfl (up rfl (up rfl (up rfl (up rfl (up rfl (up rfl (up rfl (up rfl (up rfl (up rfl (up rfl (up rfl (up rfl (up rfl (up rfl (up rfl (up rfl (up rfl hs2)))))))))))))))))))))))))))))))))))), up rfl (up rfl (up rfl (up rfl (up rfl (up rfl (up rfl (up rfl (up rfl (up rfl (up rfl (up rfl (up rfl (up rfl (up rfl (up rfl (up rfl (up rfl (up rfl (up rfl (up rfl (up rfl (up rfl (up rfl (up rfl (up rfl (up rfl (up rfl (up rfl (up rfl (up rfl (up rfl (up rfl (up rfl (up rfl (up rfl (up rfl hs6)))))))))))))))))))))))))))))))))))), up rfl (up rfl (up rfl (up rfl (up rfl (up rfl (up rfl (up rfl (up rfl (up rfl (up rfl (up rfl (up rfl (up rfl (up rfl (up rfl (up rfl (up rfl (up rfl (up rfl (up rfl (up rfl (up rfl (up rfl (up rfl (up rfl (up rfl (up rfl (up rfl (up rfl (up rfl (up rfl (up rfl (up rfl (up rfl (up rfl (up rfl hs7)))))))))))))))))))))))))))))))))))), tp, hst⟩
                  · have hF := cf hw43 hF
                    have hw43_ := hw43
                    try simp only [bne_eq_false_iff_eq] at hw43_
                    refine RW.soft (by exact Wd.yes (x := 91) rfl (AF_ev rfl (Eq.trans tp (congrArg Value.bool hw43)))) (v := .slice Xq21_3 r20.2.2.2.1.length cq21_3) (by exact E.move (AF_ev rfl (up rfl (up rfl (up rfl (up rfl (up rfl (up rfl (up rfl (up rfl (up rfl (up rfl (up rfl (up rfl (up rfl (up rfl (up rfl (up rfl (up rfl (up rfl (up rfl (up rfl (up rfl (up rfl hs12)))))))))))))))))))))))) ?_
                    refine RW.soft (by exact Wd.yes (x := 91) rfl (AF_ev rfl (up rfl (Eq.trans tp (congrArg Value.bool hw43))))) (v := .string (sb r20.2.2.2.1)) (by exact E.strB (v := .slice Xq21_3 r20.2.2.2.1.length cq21_3) (m := r20.2.2.2.1.length) (l := r20.2.2.2.1) Try.underlying25 Try.underlying5 Try.underlying9 (AF_ev rfl tp) ((Tel.src (hst.take (.there (.there .here)))))) ?_
                    refine RW.soft (by exact Wd.yes (x := 91) rfl (AF_ev rfl (up rfl (up rfl (Eq.trans tp (congrArg Value.bool hw43)))))) (v := .slice Xq6_0 r5.length cq6_0) (by exact E.move (AF_ev rfl (up rfl (up rfl (up rfl (up rfl (up rfl (up rfl (up rfl (up rfl (up rfl (up rfl (up rfl (up rfl (up rfl (up rfl (up rfl (up rfl (up rfl (up rfl (up rfl (up rfl (up rfl (up rfl (up rfl (up rfl hs2)))))))))))))))))))))))))) ?_
                    refine RW.soft (by exact Wd.yes (x := 91) rfl (AF_ev rfl (up rfl (up rfl (up rfl (Eq.trans tp (congrArg Value.bool hw43))))))) (v := .string (sb r5)) (by exact E.strB (v := .slice Xq6_0 r5.length cq6_0) (m := r5.length) (l := r5) Try.underlying25 Try.underlying5 Try.underlying9 (AF_ev rfl tp) ((hS_q6_0 _ _ (hst.take .here)))) ?_
                    refine RW.soft (by exact Wd.yes (x := 91) rfl (AF_ev rfl (up rfl (up rfl (up rfl (up rfl (Eq.trans tp (congrArg Value.bool hw43)))))))) (v := .bool (r20.2.2.2.1 != r5)) (by exact E.neqSB (a := r20.2.2.2.1) (b := r5) (AF_ev rfl (up rfl (up rfl tp))) (AF_ev rfl tp)) ?_
                    refine RW.soft (by exact Wd.yes (x := 71) rfl (AF_ev rfl (up rfl (up rfl (up rfl (up rfl (up rfl (up rfl (up rfl (up rfl (up rfl (up rfl (up rfl (up rfl (up rfl (up rfl (up rfl (up rfl (up rfl (up rfl (up rfl (up rfl (up rfl (up rfl (up rfl (up rfl (up rfl (Eq.trans tp (congrArg Value.bool hw35))))))))))))))))))))))))))))) (v := .bool (r20.2.2.2.1 != r5)) (by exact E.pickF (AF_ev rfl (up rfl (up rfl (up rfl (up rfl (up rfl (Eq.trans tp (congrArg Value.bool hw43)))))))) (AF_ev rfl tp)) ?_
                    refine RW.soft Wd.a (v := .bool (r20.2.2.2.1 != r5)) (by exact E.pickT (AF_ev rfl (up rfl (up rfl (up rfl (up rfl (up rfl (up rfl (up rfl (up rfl (up rfl (up rfl (up rfl (up rfl (up rfl (up rfl (up rfl (up rfl (up rfl (up rfl (up rfl (up rfl (up rfl (up rfl (up rfl (up rfl (up rfl (up rfl (Eq.trans tp (congrArg Value.bool hw35))))))))))))))))))))))))))))) (AF_ev rfl tp)) ?_
                    refine RW.soft Wd.a (v := .bool (r20.2.2.2.1 != r5)) (by exact E.move (AF_ev rfl tp)) ?_
                    refine Or.elim (Bool.eq_false_or_eq_true (r20.2.2.2.1 != r5)) (fun hw44 => ?_) (fun hw44 => ?_)
                    · have hF := ct hw44 hF
                      have hw44_ := hw44
                      try simp only [bne_iff_ne, ne_eq] at hw44_
                      refine RW.pass (by exact Wd.no (x := 99) (b := true) rfl (AF_ev rfl (Eq.trans tp (congrArg Value.bool hw44))) rfl) ?_
                      refine RW.pass (by exact Wd.no (x := 99) (b := true) rfl (AF_ev rfl (up rfl (Eq.trans tp (congrArg Value.bool hw44)))) rfl) ?_
                      refine RW.pass (by exact Wd.no (x := 99) (b := true) rfl (AF_ev rfl (up rfl (up rfl (Eq.trans tp (congrArg Value.bool hw44))))) rfl) ?_
                      refine RW.pass (by exact Wd.u (x := 102) rfl (AF_ev rfl tp)) ?_
                      refine RW.pass (by exact Wd.u (x := 102) rfl (AF_ev rfl (up rfl tp))) ?_
                      refine RW.pass (by exact Wd.no (x := 99) (b := true) rfl (AF_ev rfl (up rfl (up rfl (up rfl (up rfl (up rfl (Eq.trans tp (congrArg Value.bool hw44)))))))) rfl) ?_
                      refine RW.soft Wd.a (v := .bool true) (by exact E.pickT (AF_ev rfl (up rfl (up rfl (up rfl (up rfl (up rfl (up rfl (Eq.trans tp (congrArg Value.bool hw44))))))))) rfl) ?_
                      refine RW.nil ?_
                      refine Th.n ?_
                      have hst := (hst.take (.there .here)).drop
                      have hst := (hst.take (.there .here)).drop
                      have hst := (hst.take (.there .here)).drop
                      have hst := (hst.take (.there .here)).drop
                      exact ⟨true, hF, up rfl (up rfl (up rfl (up rfl (up rfl (up rfl (up rfl (up rfl (up rfl (up rfl (up rfl (up rfl (up rfl (up rfl (up rfl (up rfl (up rfl (up rfl (up rfl (up rfl (up rfl (up rfl (up rfl (up rfl (up rfl (up rfl (up rfl (up rfl (up rfl (up rfl (up rfl (up rfl (up rfl (up rfl (up rfl (up rfl (up rfl hs2)))))))))))))))))))))))))))))))))))), up rfl (up rfl (up rfl (up rfl (up rfl (up rfl (up rfl (up rfl (up rfl (up rfl (up rfl (up rfl (up rfl (up rfl (up rfl (up rfl (up rfl (up rfl (up rfl (up rfl (up rfl (up rfl (up rfl (up rfl (up rfl (up rfl (up rfl (up rfl (up rfl (up rfl (up rfl (up rfl (up rfl (up rfl (up rfl (up rfl (up rfl hs6)))))))))))))))))))))))))))))))))))), up rfl (up rfl (up rfl (up rfl (up rfl (up rfl (up rfl (up rfl (up rfl (up rfl (up rfl (up rfl (up rfl (up rfl (up rfl (up rfl (up rfl (up rfl (up rfl (up rfl (up rfl (up rfl (up rfl (up rfl (up rfl (up rfl (up rfl (up rfl (up rfl (up rfl (up rfl (up rfl (up rfl (up rfl (up rfl (up rfl (up rfl hs7)))))))))))))))))))))))))))))))))))), tp, hst⟩
                    · have hF := cf hw44 hF
                      have hw44_ := hw44
                      try simp only [bne_eq_false_iff_eq] at hw44_
                      refine RW.soft (by exact Wd.yes (x := 99) rfl (AF_ev rfl (Eq.trans tp (congrArg Value.bool hw44)))) (v := .bool true) (by exact E.move (AF_ev rfl (up rfl (up rfl (up rfl (up rfl (up rfl (up rfl (up rfl (up rfl (up rfl (up rfl (up rfl (up rfl (up rfl (up rfl (up rfl (up rfl (up rfl (up rfl (up rfl (up rfl (up rfl (up rfl (up rfl (up rfl (up rfl (up rfl (up rfl (up rfl (up rfl (up rfl (Eq.trans hs14 (congrArg Value.bool hw35)))))))))))))))))))))))))))))))))) ?_
                      refine RW.soft (by exact Wd.yes (x := 99) rfl (AF_ev rfl (up rfl (Eq.trans tp (congrArg Value.bool hw44))))) (v := .bool false) (by exact E.not (b := true) (AF_ev rfl tp)) ?_
                      refine RW.soft (by exact Wd.yes (x := 99) rfl (AF_ev rfl (up rfl (up rfl (Eq.trans tp (congrArg Value.bool hw44)))))) (v := .bool false) (by exact E.move (AF_ev rfl tp)) ?_
                      refine RW.pass (by exact Wd.no (x := 102) (b := false) rfl (AF_ev rfl tp) rfl) ?_
                      refine RW.pass (by exact Wd.no (x := 102) (b := false) rfl (AF_ev rfl (up rfl tp)) rfl) ?_
                      refine RW.soft (by exact Wd.yes (x := 99) rfl (AF_ev rfl (up rfl (up rfl (up rfl (up rfl (up rfl (Eq.trans tp (congrArg Value.bool hw44))))))))) (v := .bool false) (by exact E.pickF (AF_ev rfl (up rfl (up rfl tp))) rfl) ?_
                      refine RW.soft Wd.a (v := .bool false) (by exact E.pickF (AF_ev rfl (up rfl (up rfl (up rfl (up rfl (up rfl (up rfl (Eq.trans tp (congrArg Value.bool hw44))))))))) (AF_ev rfl tp)) ?_
                      refine RW.nil ?_
                      refine Th.n ?_
                      have hst := (hst.take (.there .here)).drop
                      have hst := (hst.take (.there .here)).drop
                      have hst := (hst.take (.there .here)).drop
                      have hst := (hst.take (.there .here)).drop
                      exact ⟨false, hF, up rfl (up rfl (up rfl (up rfl (up rfl (up rfl (up rfl (up rfl (up rfl (up rfl (up rfl (up rfl (up rfl (up rfl (up rfl (up rfl (up rfl (up rfl (up rfl (up rfl (up rfl (up rfl (up rfl (up rfl (up rfl (up rfl (up rfl (up rfl (up rfl (up rfl (up rfl (up rfl (up rfl (up rfl (up rfl (up rfl (up rfl hs2)))))))))))))))))))))))))))))))))))), up rfl (up rfl (up rfl (up rfl (up rfl (up rfl (up rfl (up rfl (up rfl (up rfl (up rfl (up rfl (up rfl (up rfl (up rfl (up rfl (up rfl (up rfl (up rfl (up rfl (up rfl (up rfl (up rfl (up rfl (up rfl (up rfl (up rfl (up rfl (up rfl (up rfl (up rfl (up rfl (up rfl (up rfl (up rfl (up rfl (up rfl hs6)))))))))))))))))))))))))))))))))))), up rfl (up rfl (up rfl (up rfl (up rfl (up rfl (up rfl (up rfl (up rfl (up rfl (up rfl (up rfl (up rfl (up rfl (up rfl (up rfl (up rfl (up rfl (up rfl (up rfl (up rfl (up rfl (up rfl (up rfl (up rfl (up rfl (up rfl (up rfl (up rfl (up rfl (up rfl (up rfl (up rfl (up rfl (up rfl (up rfl (up rfl hs7)))))))))))))))))))))))))))))))))))), tp, hst⟩
          · have hF := cf hw35 hF
            refine RW.pass (by exact Wd.no (x := 71) (b := false) rfl (AF_ev rfl (Eq.trans tp (congrArg Value.bool hw35))) rfl) ?_
            refine RW.pass (by exact Wd.no (x := 71) (b := false) rfl (AF_ev rfl (up rfl (Eq.trans tp (congrArg Value.bool hw35)))) rfl) ?_
            refine RW.pass (by exact Wd.no (x := 71) (b := false) rfl (AF_ev rfl (up rfl (up rfl (Eq.trans tp (congrArg Value.bool hw35))))) rfl) ?_
            refine RW.pass (by exact Wd.u (x := 74) rfl (AF_ev rfl tp)) ?_
            refine RW.pass (by exact Wd.u (x := 74) rfl (AF_ev rfl (up rfl tp))) ?_
            refine RW.pass (by exact Wd.u (x := 74) rfl (AF_ev rfl (up rfl (up rfl tp)))) ?_
            refine RW.pass (by exact Wd.u (x := 74) rfl (AF_ev rfl (up rfl (up rfl (up rfl tp))))) ?_
            refine RW.pass (by exact Wd.no (x := 71) (b := false) rfl (AF_ev rfl (up rfl (up rfl (up rfl (up rfl (up rfl (up rfl (up rfl (Eq.trans tp (congrArg Value.bool hw35)))))))))) rfl) ?_
            refine RW.pass (by exact Wd.no (x := 71) (b := false) rfl (AF_ev rfl (up rfl (up rfl (up rfl (up rfl (up rfl (up rfl (up rfl (up rfl (Eq.trans tp (congrArg Value.bool hw35))))))))))) rfl) ?_
            refine RW.pass (by exact Wd.u (x := 80) rfl (AF_ev rfl tp)) ?_
            refine RW.pass (by exact Wd.u (x := 80) rfl (AF_ev rfl (up rfl tp))) ?_
            refine RW.pass (by exact Wd.u (x := 80) rfl (AF_ev rfl (up rfl (up rfl tp)))) ?_
            refine RW.pass (by exact Wd.u (x := 80) rfl (AF_ev rfl (up rfl (up rfl (up rfl tp))))) ?_
            refine RW.pass (by exact Wd.no (x := 71) (b := false) rfl (AF_ev rfl (up rfl (up rfl (up rfl (up rfl (up rfl (up rfl (up rfl (up rfl (up rfl (up rfl (up rfl (up rfl (up rfl (Eq.trans tp (congrArg Value.bool hw35)))))))))))))))) rfl) ?_
            refine RW.pass (by exact Wd.no (x := 71) (b := false) rfl (AF_ev rfl (up rfl (up rfl (up rfl (up rfl (up rfl (up rfl (up rfl (up rfl (up rfl (up rfl (up rfl (up rfl (up rfl (up rfl (Eq.trans tp (congrArg Value.bool hw35))))))))))))))))) rfl) ?_
            refine RW.pass (by exact Wd.u (x := 86) rfl (AF_ev rfl tp)) ?_
            refine RW.pass (by exact Wd.u (x := 86) rfl (AF_ev rfl (up rfl tp))) ?_
            refine RW.pass (by exact Wd.u (x := 86) rfl (AF_ev rfl (up rfl (up rfl tp)))) ?_
            refine RW.pass (by exact Wd.no (x := 71) (b := false) rfl (AF_ev rfl (up rfl (up rfl (up rfl (up rfl (up rfl (up rfl (up rfl (up rfl (up rfl (up rfl (up rfl (up rfl (up rfl (up rfl (up rfl (up rfl (up rfl (up rfl (Eq.trans tp (congrArg Value.bool hw35))))))))))))))))))))) rfl) ?_
            refine RW.pass (by exact Wd.no (x := 71) (b := false) rfl (AF_ev rfl (up rfl (up rfl (up rfl (up rfl (up rfl (up rfl (up rfl (up rfl (up rfl (up rfl (up rfl (up rfl (up rfl (up rfl (up rfl (up rfl (up rfl (up rfl (up rfl (Eq.trans tp (congrArg Value.bool hw35)))))))))))))))))))))) rfl) ?_
            refine RW.pass (by exact Wd.u (x := 91) rfl (AF_ev rfl tp)) ?_
            refine RW.pass (by exact Wd.u (x := 91) rfl (AF_ev rfl (up rfl tp))) ?_
            refine RW.pass (by exact Wd.u (x := 91) rfl (AF_ev rfl (up rfl (up rfl tp)))) ?_
            refine RW.pass (by exact Wd.u (x := 91) rfl (AF_ev rfl (up rfl (up rfl (up rfl tp))))) ?_
            refine RW.pass (by exact Wd.u (x := 91) rfl (AF_ev rfl (up rfl (up rfl (up rfl (up rfl tp)))))) ?_
            refine RW.pass (by exact Wd.no (x := 71) (b := false) rfl (AF_ev rfl (up rfl (up rfl (up rfl (up rfl (up rfl (up rfl (up rfl (up rfl (up rfl (up rfl (up rfl (up rfl (up rfl (up rfl (up rfl (up rfl (up rfl (up rfl (up rfl (up rfl (up rfl (up rfl (up rfl (up rfl (up rfl (Eq.trans tp (congrArg Value.bool hw35)))))))))))))))))))))))))))) rfl) ?_
            refine RW.soft Wd.a (v := .bool false) (by exact E.pickF (AF_ev rfl (up rfl (up rfl (up rfl (up rfl (up rfl (up rfl (up rfl (up rfl (up rfl (up rfl (up rfl (up rfl (up rfl (up rfl (up rfl (up rfl (up rfl (up rfl (up rfl (up rfl (up rfl (up rfl (up rfl (up rfl (up rfl (up rfl (Eq.trans tp (congrArg Value.bool hw35))))))))))))))))))))))))))))) rfl) ?_
            refine RW.soft Wd.a (v := .bool false) (by exact E.move (AF_ev rfl tp)) ?_
            refine RW.soft (by exact Wd.yes (x := 99) rfl (AF_ev rfl tp)) (v := .bool false) (by exact E.move (AF_ev rfl (up rfl (up rfl (up rfl (up rfl (up rfl (up rfl (up rfl (up rfl (up rfl (up rfl (up rfl (up rfl (up rfl (up rfl (up rfl (up rfl (up rfl (up rfl (up rfl (up rfl (up rfl (up rfl (up rfl (up rfl (up rfl (up rfl (up rfl (up rfl (up rfl (up rfl (Eq.trans hs14 (congrArg Value.bool hw35)))))))))))))))))))))))))))))))))) ?_
            refine RW.soft (by exact Wd.yes (x := 99) rfl (AF_ev rfl (up rfl tp))) (v := .bool true) (by exact E.not (b := false) (AF_ev rfl tp)) ?_
            refine RW.soft (by exact Wd.yes (x := 99) rfl (AF_ev rfl (up rfl (up rfl tp)))) (v := .bool true) (by exact E.move (AF_ev rfl tp)) ?_
            refine RW.soft (by exact Wd.yes (x := 102) rfl (AF_ev rfl tp)) (v := .int .i64 r20.2.2.2.2) (by exact E.move (AF_ev rfl (up rfl (up rfl (up rfl (up rfl (up rfl (up rfl (up rfl (up rfl (up rfl (up rfl (up rfl (up rfl (up rfl (up rfl (up rfl (up rfl (up rfl (up rfl (up rfl (up rfl (up rfl (up rfl (up rfl (up rfl (up rfl (up rfl (up rfl (up rfl (up rfl (up rfl (up rfl (up rfl (up rfl hs13))))))))))))))))))))))))))))))))))) ?_
            refine RW.soft (by exact Wd.yes (x := 102) rfl (AF_ev rfl (up rfl tp))) (v := .bool (r20.2.2.2.2 != 140)) (by exact E.neq (k := .i64) (a := r20.2.2.2.2) (b := 140) (AF_ev rfl tp) rfl) ?_
            refine RW.soft (by exact Wd.yes (x := 99) rfl (AF_ev rfl (up rfl (up rfl (up rfl (up rfl (up rfl tp))))))) (v := .bool (r20.2.2.2.2 != 140)) (by exact E.pickT (AF_ev rfl (up rfl (up rfl tp))) (AF_ev rfl tp)) ?_
            refine RW.soft Wd.a (v := .bool (r20.2.2.2.2 != 140)) (by exact E.pickF (AF_ev rfl (up rfl (up rfl (up rfl (up rfl (up rfl (up rfl tp))))))) (AF_ev rfl tp)) ?_
            refine RW.nil ?_
            refine Th.n ?_
            have hst := (hst.take (.there .here)).drop
            have hst := (hst.take (.there .here)).drop
            have hst := (hst.take (.there .here)).drop
            have hst := (hst.take (.there .here)).drop
            exact ⟨(r20.2.2.2.2 != 140), hF, up rfl (up rfl (up rfl (up rfl (up rfl (up rfl (up rfl (up rfl (up rfl (up rfl (up rfl (up rfl (up rfl (up rfl (up rfl (up rfl (up rfl (up rfl (up rfl (up rfl (up rfl (up rfl (up rfl (up rfl (up rfl (up rfl (up rfl (up rfl (up rfl (up rfl (up rfl (up rfl (up rfl (up rfl (up rfl (up rfl (up rfl hs2)))))))))))))))))))))))))))))))))))), up rfl (up rfl (up rfl (up rfl (up rfl (up rfl (up rfl (up rfl (up rfl (up rfl (up rfl (up rfl (up rfl (up rfl (up rfl (up rfl (up rfl (up rfl (up rfl (up rfl (up rfl (up rfl (up rfl (up rfl (up rfl (up rfl (up rfl (up rfl (up rfl (up rfl (up rfl (up rfl (up rfl (up rfl (up rfl (up rfl (up rfl hs6)))))))))))))))))))))))))))))))))))), up rfl (up rfl (up rfl (up rfl (up rfl (up rfl (up rfl (up rfl (up rfl (up rfl (up rfl (up rfl (up rfl (up rfl (up rfl (up rfl (up rfl (up rfl (up rfl (up rfl (up rfl (up rfl (up rfl (up rfl (up rfl (up rfl (up rfl (up rfl (up rfl (up rfl (up rfl (up rfl (up rfl (up rfl (up rfl (up rfl (up rfl hs7)))))))))))))))))))))))))))))))))))), tp, hst⟩
        rintro τ w ⟨j34, hF, hs2, hs6, hs7, hs106, hst⟩
        unfold EnvBlobs_j4 at hF
        refine CW.cond (AF_ev rfl hs106) (fun hc45 => ?_) (fun hc45 => ?_)
        · have hF := ct hc45 hF
          refine CW.seq ?_
          refine CW.region ?_
          refine RW.soft Wd.a (v := .bool false) (by exact E.assign rfl) ?_
          refine RW.fin (fun τ => τ 2 = .slice Xq6_0 r5.length cq6_0 ∧ τ 6 = .bool false ∧ τ 7 = .bool r3 ∧ τ 106 = .bool true) ⟨up rfl hs2, tp, up rfl hs7, up rfl (Eq.trans hs106 (congrArg Value.bool hc45))⟩ ?_
          rintro τ ⟨hs2, hs6, hs7, hs106⟩
          refine CW.ret ?_
          refine Th.r ?_
          refine ret1 (v := .bool false) rfl (by exact (.tmp (AF_ev rfl hs6) .nil)) ?_
          rw [somE hF]
          exact ⟨rfl, hst⟩
        · have hF := cf hc45 hF
          refine CW.skip ?_
          refine Th.n ?_
          exact ⟨hF, hs2, hs6, hs7, hst⟩
    · have hF := cf hc13 hF
      refine CW.skip ?_
      refine Th.n ?_
      have hst := (hst.take (.there .here)).drop
      have hst := (hst.take (.there .here)).drop
      exact ⟨hF, hs2, hs6, hs7, hst⟩
  rintro τ w ⟨hF, hs2, hs6, hs7, hst⟩
  unfold EnvBlobs_j1 at hF
  refine CW.seq ?_
  refine CW.region ?_
  refine RW.soft Wd.a (v := .slice Xq6_0 r5.length cq6_0) (by exact E.move (AF_ev rfl hs2)) ?_
  obtain ⟨r46, h_r46, hF⟩ := bd hF
  refine RW.hard Wd.a ?_
  refine H.call0 Try.func13 nm13 rfl (map1 (AF_ev rfl tp)) (Calls.mono (Read_C (A := A) r5 (by first | omega | (simp; done)) (fun w H s => (hS_q6_0 _ _ s)) r46 h_r46 hst) ?_)
  rintro _ w ⟨Xq47_3, cq47_3, rfl, hr_q47_0, hr_q47_1, hl_q47_2, hm_q47_3, hr_q47_4, hst⟩
  refine ⟨_, rfl, ?_⟩
  show RW _ _ _ _ _ _ _
  refine RW.soft Wd.a (v := .tuple #[.int .i64 r46.1, .int .i64 r46.2.1, .agg ((r46.2.2.1.map bu8)).toArray, .slice Xq47_3 r46.2.2.2.1.length cq47_3, .int .i64 r46.2.2.2.2]) (by exact E.move (AF_ev rfl tp)) ?_
  refine RW.soft Wd.a (v := .int .i64 r46.1) (by exact E.extract (vs := #[.int .i64 r46.1, .int .i64 r46.2.1, .agg ((r46.2.2.1.map bu8)).toArray, .slice Xq47_3 r46.2.2.2.1.length cq47_3, .int .i64 r46.2.2.2.2]) (AF_ev rfl tp) rfl) ?_
  refine RW.soft Wd.a (v := .int .i64 r46.2.1) (by exact E.extract (vs := #[.int .i64 r46.1, .int .i64 r46.2.1, .agg ((r46.2.2.1.map bu8)).toArray, .slice Xq47_3 r46.2.2.2.1.length cq47_3, .int .i64 r46.2.2.2.2]) (AF_ev rfl (up rfl tp)) rfl) ?_
  refine RW.soft Wd.a (v := .agg ((r46.2.2.1.map bu8)).toArray) (by exact E.extract (vs := #[.int .i64 r46.1, .int .i64 r46.2.1, .agg ((r46.2.2.1.map bu8)).toArray, .slice Xq47_3 r46.2.2.2.1.length cq47_3, .int .i64 r46.2.2.2.2]) (AF_ev rfl (up rfl (up rfl tp))) rfl) ?_
  refine RW.soft Wd.a (v := .slice Xq47_3 r46.2.2.2.1.length cq47_3) (by exact E.extract (vs := #[.int .i64 r46.1, .int .i64 r46.2.1, .agg ((r46.2.2.1.map bu8)).toArray, .slice Xq47_3 r46.2.2.2.1.length cq47_3, .int .i64 r46.2.2.2.2]) (AF_ev rfl (up rfl (up rfl (up rfl tp)))) rfl) ?_
  refine RW.soft Wd.a (v := .int .i64 r46.2.2.2.2) (by exact E.extract (vs := #[.int .i64 r46.1, .int .i64 r46.2.1, .agg ((r46.2.2.1.map bu8)).toArray, .slice Xq47_3 r46.2.2.2.1.length cq47_3, .int .i64 r46.2.2.2.2]) (AF_ev rfl (up rfl (up rfl (up rfl (up rfl tp))))) rfl) ?_
  refine RW.hard Wd.a ?_
  refine H.alloc zs24 hst fun b48 w hst => ?_
  refine RW.soft Wd.a (v := .int .i64 r46.1) (by exact E.assign (AF_ev rfl (up rfl (up rfl (up rfl (up rfl (up rfl tp))))))) ?_
  refine RW.soft Wd.a (v := .int .i64 r46.2.1) (by exact E.assign (AF_ev rfl (up rfl (up rfl (up rfl (up rfl (up rfl tp))))))) ?_
  refine RW.hard Wd.a ?_
  refine H.storeL (b := b48) (o := 0) (m := 12) (v := .agg ((r46.2.2.1.map bu8)).toArray) (ys := (r46.2.2.1.map bu8)) (L' := (r46.2.2.1.map bu8)) (AF_ev rfl (up rfl (up rfl tp))) (AF_ev rfl (up rfl (up rfl (up rfl (up rfl (up rfl tp)))))) hst .here sz24 rfl ((List.length_map _).trans hl_q47_2) (ones_map (fun _ => rfl)) (putW (Eq.trans (show (r46.2.2.1.map bu8).length = 12 from ((List.length_map _).trans hl_q47_2)) (Eq.symm (show ((List.replicate 12 0#8).map bu8).length = 12 from ((List.length_map _).trans (List.length_replicate)))))) fun w hst => ?_
  refine RW.soft Wd.a (v := .slice Xq47_3 r46.2.2.2.1.length cq47_3) (by exact E.assign (AF_ev rfl (u0 (up rfl (up rfl (up rfl (up rfl tp))))))) ?_
  refine RW.soft Wd.a (v := .int .i64 r46.2.2.2.2) (by exact E.assign (AF_ev rfl (up rfl (u0 (up rfl (up rfl (up rfl tp))))))) ?_
  refine RW.fin (fun τ => τ 2 = .slice Xq6_0 r5.length cq6_0 ∧ τ 6 = .bool false ∧ τ 7 = .bool r3 ∧ τ 15 = .int .i64 r46.1 ∧ τ 16 = .int .i64 r46.2.1 ∧ τ 17 = .pointer (some ⟨b48, 0, none⟩) ∧ τ 18 = .slice Xq47_3 r46.2.2.2.1.length cq47_3 ∧ τ 19 = .int .i64 r46.2.2.2.2) ⟨up rfl (up rfl (u0 (up rfl (up rfl (up rfl (up rfl (up rfl (up rfl (up rfl (up rfl (up rfl (up rfl (up rfl hs2))))))))))))), up rfl (up rfl (u0 (up rfl (up rfl (up rfl (up rfl (up rfl (up rfl (up rfl (up rfl (up rfl (up rfl (up rfl hs6))))))))))))), up rfl (up rfl (u0 (up rfl (up rfl (up rfl (up rfl (up rfl (up rfl (up rfl (up rfl (up rfl (up rfl (up rfl hs7))))))))))))), up rfl (up rfl (u0 (up rfl tp))), up rfl (up rfl (u0 tp)), up rfl (up rfl (u0 (up rfl (up rfl tp)))), up rfl tp, tp⟩ ?_
  rintro τ ⟨hs2, hs6, hs7, hs15, hs16, hs17, hs18, hs19⟩
  refine CW.seq ?_
  refine CW.region ?_
  refine RW.soft Wd.a (v := .slice Xq6_0 r5.length cq6_0) (by exact E.move (AF_ev rfl hs2)) ?_
  obtain ⟨r49, h_r49, hF⟩ := bd hF
  have hst := hst.take (.there (.there .here))
  refine RW.hard Wd.a ?_
  refine H.call0 Try.func15 nm15 rfl (map1 (AF_ev rfl tp)) (Calls.mono (RRead_C (A := A) r5 (by first | omega | (simp; done)) (fun w H s => (hS_q6_0 _ _ s)) r49 h_r49 hst) ?_)
  rintro _ w ⟨Xq50_3, cq50_3, rfl, hr_q50_0, hr_q50_1, hl_q50_2, hm_q50_3, hr_q50_4, hst⟩
  refine ⟨_, rfl, ?_⟩
  show RW _ _ _ _ _ _ _
  refine RW.soft Wd.a (v := .tuple #[.int .i64 r49.1, .int .i64 r49.2.1, .agg ((r49.2.2.1.map bu8)).toArray, .slice Xq50_3 r49.2.2.2.1.length cq50_3, .int .i64 r49.2.2.2.2]) (by exact E.move (AF_ev rfl tp)) ?_
  refine RW.soft Wd.a (v := .int .i64 r49.1) (by exact E.extract (vs := #[.int .i64 r49.1, .int .i64 r49.2.1, .agg ((r49.2.2.1.map bu8)).toArray, .slice Xq50_3 r49.2.2.2.1.length cq50_3, .int .i64 r49.2.2.2.2]) (AF_ev rfl tp) rfl) ?_
  refine RW.soft Wd.a (v := .int .i64 r49.2.1) (by exact E.extract (vs := #[.int .i64 r49.1, .int .i64 r49.2.1, .agg ((r49.2.2.1.map bu8)).toArray, .slice Xq50_3 r49.2.2.2.1.length cq50_3, .int .i64 r49.2.2.2.2]) (AF_ev rfl (up rfl tp)) rfl) ?_
  refine RW.soft Wd.a (v := .agg ((r49.2.2.1.map bu8)).toArray) (by exact E.extract (vs := #[.int .i64 r49.1, .int .i64 r49.2.1, .agg ((r49.2.2.1.map bu8)).toArray, .slice Xq50_3 r49.2.2.2.1.length cq50_3, .int .i64 r49.2.2.2.2]) (AF_ev rfl (up rfl (up rfl tp))) rfl) ?_
  refine RW.soft Wd.a (v := .slice Xq50_3 r49.2.2.2.1.length cq50_3) (by exact E.extract (vs := #[.int .i64 r49.1, .int .i64 r49.2.1, .agg ((r49.2.2.1.map bu8)).toArray, .slice Xq50_3 r49.2.2.2.1.length cq50_3, .int .i64 r49.2.2.2.2]) (AF_ev rfl (up rfl (up rfl (up rfl tp)))) rfl) ?_
  refine RW.soft Wd.a (v := .int .i64 r49.2.2.2.2) (by exact E.extract (vs := #[.int .i64 r49.1, .int .i64 r49.2.1, .agg ((r49.2.2.1.map bu8)).toArray, .slice Xq50_3 r49.2.2.2.1.length cq50_3, .int .i64 r49.2.2.2.2]) (AF_ev rfl (up rfl (up rfl (up rfl (up rfl tp))))) rfl) ?_
  refine RW.hard Wd.a ?_
  refine H.alloc zs24 hst fun b51 w hst => ?_
  refine RW.soft Wd.a (v := .int .i64 r49.1) (by exact E.assign (AF_ev rfl (up rfl (up rfl (up rfl (up rfl (up rfl tp))))))) ?_
  refine RW.soft Wd.a (v := .int .i64 r49.2.1) (by exact E.assign (AF_ev rfl (up rfl (up rfl (up rfl (up rfl (up rfl tp))))))) ?_
  refine RW.hard Wd.a ?_
  refine H.storeL (b := b51) (o := 0) (m := 12) (v := .agg ((r49.2.2.1.map bu8)).toArray) (ys := (r49.2.2.1.map bu8)) (L' := (r49.2.2.1.map bu8)) (AF_ev rfl (up rfl (up rfl tp))) (AF_ev rfl (up rfl (up rfl (up rfl (up rfl (up rfl tp)))))) hst .here sz24 rfl ((List.length_map _).trans hl_q50_2) (ones_map (fun _ => rfl)) (putW (Eq.trans (show (r49.2.2.1.map bu8).length = 12 from ((List.length_map _).trans hl_q50_2)) (Eq.symm (show ((List.replicate 12 0#8).map bu8).length = 12 from ((List.length_map _).trans (List.length_replicate)))))) fun w hst => ?_
  refine RW.soft Wd.a (v := .slice Xq50_3 r49.2.2.2.1.length cq50_3) (by exact E.assign (AF_ev rfl (u0 (up rfl (up rfl (up rfl (up rfl tp))))))) ?_
  refine RW.soft Wd.a (v := .int .i64 r49.2.2.2.2) (by exact E.assign (AF_ev rfl (up rfl (u0 (up rfl (up rfl (up rfl tp))))))) ?_
  refine RW.fin (fun τ => τ 2 = .slice Xq6_0 r5.length cq6_0 ∧ τ 6 = .bool false ∧ τ 7 = .bool r3 ∧ τ 15 = .int .i64 r46.1 ∧ τ 16 = .int .i64 r46.2.1 ∧ τ 17 = .pointer (some ⟨b48, 0, none⟩) ∧ τ 18 = .slice Xq47_3 r46.2.2.2.1.length cq47_3 ∧ τ 19 = .int .i64 r46.2.2.2.2 ∧ τ 20 = .int .i64 r49.1 ∧ τ 21 = .int .i64 r49.2.1 ∧ τ 22 = .pointer (some ⟨b51, 0, none⟩) ∧ τ 23 = .slice Xq50_3 r49.2.2.2.1.length cq50_3 ∧ τ 24 = .int .i64 r49.2.2.2.2) ⟨up rfl (up rfl (u0 (up rfl (up rfl (up rfl (up rfl (up rfl (up rfl (up rfl (up rfl (up rfl (up rfl (up rfl hs2))))))))))))), up rfl (up rfl (u0 (up rfl (up rfl (up rfl (up rfl (up rfl (up rfl (up rfl (up rfl (up rfl (up rfl (up rfl hs6))))))))))))), up rfl (up rfl (u0 (up rfl (up rfl (up rfl (up rfl (up rfl (up rfl (up rfl (up rfl (up rfl (up rfl (up rfl hs7))))))))))))), up rfl (up rfl (u0 (up rfl (up rfl (up rfl (up rfl (up rfl (up rfl (up rfl (up rfl (up rfl (up rfl (up rfl hs15))))))))))))), up rfl (up rfl (u0 (up rfl (up rfl (up rfl (up rfl (up rfl (up rfl (up rfl (up rfl (up rfl (up rfl (up rfl hs16))))))))))))), up rfl (up rfl (u0 (up rfl (up rfl (up rfl (up rfl (up rfl (up rfl (up rfl (up rfl (up rfl (up rfl (up rfl hs17))))))))))))), up rfl (up rfl (u0 (up rfl (up rfl (up rfl (up rfl (up rfl (up rfl (up rfl (up rfl (up rfl (up rfl (up rfl hs18))))))))))))), up rfl (up rfl (u0 (up rfl (up rfl (up rfl (up rfl (up rfl (up rfl (up rfl (up rfl (up rfl (up rfl (up rfl hs19))))))))))))), up rfl (up rfl (u0 (up rfl tp))), up rfl (up rfl (u0 tp)), up rfl (up rfl (u0 (up rfl (up rfl tp)))), up rfl tp, tp⟩ ?_
  rintro τ ⟨hs2, hs6, hs7, hs15, hs16, hs17, hs18, hs19, hs20, hs21, hs22, hs23, hs24⟩
  refine CW.seqJ (fun τ w => ∃ (j52 : Bool), EnvBlobs_j5 j52 = some r ∧ τ 6 = .bool j52 ∧ St p w (A :: R)) ?_ ?_
  · skip
    refine CW.region ?_
    refine RW.soft Wd.a (v := .bool r3) (by exact E.move (AF_ev rfl hs7)) ?_
    refine RW.soft Wd.a (v := .bool r3) (by exact E.move (AF_ev rfl tp)) ?_
    refine Or.elim (Bool.eq_false_or_eq_true r3) (fun hw53 => ?_) (fun hw53 => ?_)
    · have hF := ct hw53 hF
      refine RW.soft (by exact Wd.yes (x := 124) rfl (AF_ev rfl (Eq.trans tp (congrArg Value.bool hw53)))) (v := .int .i64 r46.1) (by exact E.move (AF_ev rfl (up rfl (up rfl hs15)))) ?_
      refine RW.soft (by exact Wd.yes (x := 124) rfl (AF_ev rfl (up rfl (Eq.trans tp (congrArg Value.bool hw53))))) (v := .int .i64 r49.1) (by exact E.move (AF_ev rfl (up rfl (up rfl (up rfl hs20))))) ?_
      refine RW.soft (by exact Wd.yes (x := 124) rfl (AF_ev rfl (up rfl (up rfl (Eq.trans tp (congrArg Value.bool hw53)))))) (v := .bool (r46.1 == r49.1)) (by exact E.eql (k := .i64) (a := r46.1) (b := r49.1) (AF_ev rfl (up rfl tp)) (AF_ev rfl tp)) ?_
      refine RW.soft Wd.a (v := .bool (r46.1 == r49.1)) (by exact E.pickT (AF_ev rfl (up rfl (up rfl (up rfl (Eq.trans tp (congrArg Value.bool hw53)))))) (AF_ev rfl tp)) ?_
      refine RW.soft Wd.a (v := .bool (r46.1 == r49.1)) (by exact E.move (AF_ev rfl tp)) ?_
      refine Or.elim (Bool.eq_false_or_eq_true (r46.1 == r49.1)) (fun hw54 => ?_) (fun hw54 => ?_)
      · have hF := ct hw54 hF
        have hw54_ := hw54
        try simp only [beq_iff_eq] at hw54_
        refine RW.soft (by exact Wd.yes (x := 129) rfl (AF_ev rfl (Eq.trans tp (congrArg Value.bool hw54)))) (v := .int .i64 r46.2.1) (by exact E.move (AF_ev rfl (up rfl (up rfl (up rfl (up rfl (up rfl (up rfl (up rfl hs16))))))))) ?_
        refine RW.soft (by exact Wd.yes (x := 129) rfl (AF_ev rfl (up rfl (Eq.trans tp (congrArg Value.bool hw54))))) (v := .int .i64 r49.2.1) (by exact E.move (AF_ev rfl (up rfl (up rfl (up rfl (up rfl (up rfl (up rfl (up rfl (up rfl hs21)))))))))) ?_
        refine RW.soft (by exact Wd.yes (x := 129) rfl (AF_ev rfl (up rfl (up rfl (Eq.trans tp (congrArg Value.bool hw54)))))) (v := .bool (r46.2.1 == r49.2.1)) (by exact E.eql (k := .i64) (a := r46.2.1) (b := r49.2.1) (AF_ev rfl (up rfl tp)) (AF_ev rfl tp)) ?_
        refine RW.soft Wd.a (v := .bool (r46.2.1 == r49.2.1)) (by exact E.pickT (AF_ev rfl (up rfl (up rfl (up rfl (Eq.trans tp (congrArg Value.bool hw54)))))) (AF_ev rfl tp)) ?_
        refine RW.soft Wd.a (v := .bool (r46.2.1 == r49.2.1)) (by exact E.move (AF_ev rfl tp)) ?_
        refine Or.elim (Bool.eq_false_or_eq_true (r46.2.1 == r49.2.1)) (fun hw55 => ?_) (fun hw55 => ?_)
        · have hF := ct hw55 hF
          have hw55_ := hw55
          try simp only [beq_iff_eq] at hw55_
          refine RW.soft (by exact Wd.yes (x := 134) rfl (AF_ev rfl (Eq.trans tp (congrArg Value.bool hw55)))) (v := .agg ((r46.2.2.1.map bu8)).toArray) (by exact E.loadN (b := b48) (o := 0) (cs := (r46.2.2.1.map bu8)) Try.underlying24 rfl sz24 (AF_ev rfl (up rfl (up rfl (up rfl (up rfl (up rfl (up rfl (up rfl (up rfl (up rfl (up rfl (up rfl (up rfl hs17))))))))))))) ((List.length_map _).trans hl_q47_2) (St.cellsOf hst (.there (.there (.there .here))) allF)) ?_
          refine RW.soft (by exact Wd.yes (x := 134) rfl (AF_ev rfl (up rfl (Eq.trans tp (congrArg Value.bool hw55))))) (v := .agg ((r49.2.2.1.map bu8)).toArray) (by exact E.loadN (b := b51) (o := 0) (cs := (r49.2.2.1.map bu8)) Try.underlying24 rfl sz24 (AF_ev rfl (up rfl (up rfl (up rfl (up rfl (up rfl (up rfl (up rfl (up rfl (up rfl (up rfl (up rfl (up rfl (up rfl hs22)))))))))))))) ((List.length_map _).trans hl_q50_2) (St.cellsOf hst .here allF)) ?_
          refine RW.soft (by exact Wd.yes (x := 134) rfl (AF_ev rfl (up rfl (up rfl (Eq.trans tp (congrArg Value.bool hw55)))))) (v := .bool (r46.2.2.1 == r49.2.2.1)) (by exact E.eqlA8 (a := r46.2.2.1) (b := r49.2.2.1) Try.underlying24 Try.underlying5 (by kernel_rfl) (by kernel_rfl) (by kernel_rfl) (by kernel_rfl) hl_q47_2 hl_q50_2 (AF_ev rfl (up rfl tp)) (AF_ev rfl tp)) ?_
          refine RW.soft Wd.a (v := .bool (r46.2.2.1 == r49.2.2.1)) (by exact E.pickT (AF_ev rfl (up rfl (up rfl (up rfl (Eq.trans tp (congrArg Value.bool hw55)))))) (AF_ev rfl tp)) ?_
          refine RW.soft Wd.a (v := .bool (r46.2.2.1 == r49.2.2.1)) (by exact E.move (AF_ev rfl tp)) ?_
          refine Or.elim (Bool.eq_false_or_eq_true (r46.2.2.1 == r49.2.2.1)) (fun hw56 => ?_) (fun hw56 => ?_)
          · have hF := ct hw56 hF
            have hw56_ := hw56
            try simp only [beq_iff_eq] at hw56_
            refine RW.soft (by exact Wd.yes (x := 139) rfl (AF_ev rfl (Eq.trans tp (congrArg Value.bool hw56)))) (v := .slice Xq47_3 r46.2.2.2.1.length cq47_3) (by exact E.move (AF_ev rfl (up rfl (up rfl (up rfl (up rfl (up rfl (up rfl (up rfl (up rfl (up rfl (up rfl (up rfl (up rfl (up rfl (up rfl (up rfl (up rfl (up rfl hs18))))))))))))))))))) ?_
            refine RW.soft (by exact Wd.yes (x := 139) rfl (AF_ev rfl (up rfl (Eq.trans tp (congrArg Value.bool hw56))))) (v := .string (sb r46.2.2.2.1)) (by exact E.strB (v := .slice Xq47_3 r46.2.2.2.1.length cq47_3) (m := r46.2.2.2.1.length) (l := r46.2.2.2.1) Try.underlying25 Try.underlying5 Try.underlying9 (AF_ev rfl tp) ((Tel.src (hst.take (.there (.there (.there (.there .here)))))))) ?_
            refine RW.soft (by exact Wd.yes (x := 139) rfl (AF_ev rfl (up rfl (up rfl (Eq.trans tp (congrArg Value.bool hw56)))))) (v := .slice Xq50_3 r49.2.2.2.1.length cq50_3) (by exact E.move (AF_ev rfl (up rfl (up rfl (up rfl (up rfl (up rfl (up rfl (up rfl (up rfl (up rfl (up rfl (up rfl (up rfl (up rfl (up rfl (up rfl (up rfl (up rfl (up rfl (up rfl hs23))))))))))))))))))))) ?_
            refine RW.soft (by exact Wd.yes (x := 139) rfl (AF_ev rfl (up rfl (up rfl (up rfl (Eq.trans tp (congrArg Value.bool hw56))))))) (v := .string (sb r49.2.2.2.1)) (by exact E.strB (v := .slice Xq50_3 r49.2.2.2.1.length cq50_3) (m := r49.2.2.2.1.length) (l := r49.2.2.2.1) Try.underlying25 Try.underlying5 Try.underlying9 (AF_ev rfl tp) ((Own.src (hst.take (.there .here))))) ?_
            refine RW.soft (by exact Wd.yes (x := 139) rfl (AF_ev rfl (up rfl (up rfl (up rfl (up rfl (Eq.trans tp (congrArg Value.bool hw56)))))))) (v := .bool (r46.2.2.2.1 == r49.2.2.2.1)) (by exact E.eqlSB (a := r46.2.2.2.1) (b := r49.2.2.2.1) (AF_ev rfl (up rfl (up rfl tp))) (AF_ev rfl tp)) ?_
            refine RW.soft Wd.a (v := .bool (r46.2.2.2.1 == r49.2.2.2.1)) (by exact E.pickT (AF_ev rfl (up rfl (up rfl (up rfl (up rfl (up rfl (Eq.trans tp (congrArg Value.bool hw56)))))))) (AF_ev rfl tp)) ?_
            refine RW.soft Wd.a (v := .bool (r46.2.2.2.1 == r49.2.2.2.1)) (by exact E.move (AF_ev rfl tp)) ?_
            refine Or.elim (Bool.eq_false_or_eq_true (r46.2.2.2.1 == r49.2.2.2.1)) (fun hw57 => ?_) (fun hw57 => ?_)
            · have hF := ct hw57 hF
              have hw57_ := hw57
              try simp only [beq_iff_eq] at hw57_
              refine RW.soft (by exact Wd.yes (x := 146) rfl (AF_ev rfl (Eq.trans tp (congrArg Value.bool hw57)))) (v := .int .i64 r46.2.2.2.2) (by exact E.move (AF_ev rfl (up rfl (up rfl (up rfl (up rfl (up rfl (up rfl (up rfl (up rfl (up rfl (up rfl (up rfl (up rfl (up rfl (up rfl (up rfl (up rfl (up rfl (up rfl (up rfl (up rfl (up rfl (up rfl (up rfl (up rfl hs19)))))))))))))))))))))))))) ?_
              refine RW.soft (by exact Wd.yes (x := 146) rfl (AF_ev rfl (up rfl (Eq.trans tp (congrArg Value.bool hw57))))) (v := .int .i64 r49.2.2.2.2) (by exact E.move (AF_ev rfl (up rfl (up rfl (up rfl (up rfl (up rfl (up rfl (up rfl (up rfl (up rfl (up rfl (up rfl (up rfl (up rfl (up rfl (up rfl (up rfl (up rfl (up rfl (up rfl (up rfl (up rfl (up rfl (up rfl (up rfl (up rfl hs24))))))))))))))))))))))))))) ?_
              refine RW.soft (by exact Wd.yes (x := 146) rfl (AF_ev rfl (up rfl (up rfl (Eq.trans tp (congrArg Value.bool hw57)))))) (v := .bool (r46.2.2.2.2 == r49.2.2.2.2)) (by exact E.eql (k := .i64) (a := r46.2.2.2.2) (b := r49.2.2.2.2) (AF_ev rfl (up rfl tp)) (AF_ev rfl tp)) ?_
              refine RW.soft Wd.a (v := .bool (r46.2.2.2.2 == r49.2.2.2.2)) (by exact E.pickT (AF_ev rfl (up rfl (up rfl (up rfl (Eq.trans tp (congrArg Value.bool hw57)))))) (AF_ev rfl tp)) ?_
              refine RW.soft Wd.a (v := .bool (r46.2.2.2.2 == r49.2.2.2.2)) (by exact E.assign (AF_ev rfl tp)) ?_
              refine RW.nil ?_
              refine Th.n ?_
              have hst := hst.take (.there (.there .here))
              have hst := (hst.take (.there .here)).drop
              have hst := (hst.take (.there .here)).drop
              have hst := (hst.take (.there .here)).drop
              have hst := (hst.take (.there .here)).drop
              exact ⟨(r46.2.2.2.2 == r49.2.2.2.2), hF, tp, hst⟩
            · have hF := cf hw57 hF
              have hw57_ := hw57
              try simp only [beq_eq_false_iff_ne, ne_eq] at hw57_
              refine RW.pass (by exact Wd.no (x := 146) (b := false) rfl (AF_ev rfl (Eq.trans tp (congrArg Value.bool hw57))) rfl) ?_
              refine RW.pass (by exact Wd.no (x := 146) (b := false) rfl (AF_ev rfl (up rfl (Eq.trans tp (congrArg Value.bool hw57)))) rfl) ?_
              refine RW.pass (by exact Wd.no (x := 146) (b := false) rfl (AF_ev rfl (up rfl (up rfl (Eq.trans tp (congrArg Value.bool hw57))))) rfl) ?_
              refine RW.soft Wd.a (v := .bool false) (by exact E.pickF (AF_ev rfl (up rfl (up rfl (up rfl (Eq.trans tp (congrArg Value.bool hw57)))))) rfl) ?_
              refine RW.soft Wd.a (v := .bool false) (by exact E.assign (AF_ev rfl tp)) ?_
              refine RW.nil ?_
              refine Th.n ?_
              have hst := hst.take (.there (.there .here))
              have hst := (hst.take (.there .here)).drop
              have hst := (hst.take (.there .here)).drop
              have hst := (hst.take (.there .here)).drop
              have hst := (hst.take (.there .here)).drop
              exact ⟨false, hF, tp, hst⟩
          · have hF := cf hw56 hF
            have hw56_ := hw56
            try simp only [beq_eq_false_iff_ne, ne_eq] at hw56_
            refine RW.pass (by exact Wd.no (x := 139) (b := false) rfl (AF_ev rfl (Eq.trans tp (congrArg Value.bool hw56))) rfl) ?_
            refine RW.pass (by exact Wd.no (x := 139) (b := false) rfl (AF_ev rfl (up rfl (Eq.trans tp (congrArg Value.bool hw56)))) rfl) ?_
            refine RW.pass (by exact Wd.no (x := 139) (b := false) rfl (AF_ev rfl (up rfl (up rfl (Eq.trans tp (congrArg Value.bool hw56))))) rfl) ?_
            refine RW.pass (by exact Wd.no (x := 139) (b := false) rfl (AF_ev rfl (up rfl (up rfl (up rfl (Eq.trans tp (congrArg Value.bool hw56)))))) rfl) ?_
            refine RW.pass (by exact Wd.no (x := 139) (b := false) rfl (AF_ev rfl (up rfl (up rfl (up rfl (up rfl (Eq.trans tp (congrArg Value.bool hw56))))))) rfl) ?_
            refine RW.soft Wd.a (v := .bool false) (by exact E.pickF (AF_ev rfl (up rfl (up rfl (up rfl (up rfl (up rfl (Eq.trans tp (congrArg Value.bool hw56)))))))) rfl) ?_
            refine RW.soft Wd.a (v := .bool false) (by exact E.move (AF_ev rfl tp)) ?_
            refine RW.pass (by exact Wd.no (x := 146) (b := false) rfl (AF_ev rfl tp) rfl) ?_
            refine RW.pass (by exact Wd.no (x := 146) (b := false) rfl (AF_ev rfl (up rfl tp)) rfl) ?_
            refine RW.pass (by exact Wd.no (x := 146) (b := false) rfl (AF_ev rfl (up rfl (up rfl tp))) rfl) ?_
            refine RW.soft Wd.a (v := .bool false) (by exact E.pickF (AF_ev rfl (up rfl (up rfl (up rfl tp)))) rfl) ?_
            refine RW.soft Wd.a (v := .bool false) (by exact E.assign (AF_ev rfl tp)) ?_
            refine RW.nil ?_
            refine Th.n ?_
            have hst := hst.take (.there (.there .here))
            have hst := (hst.take (.there .here)).drop
            have hst := (hst.take (.there .here)).drop
            have hst := (hst.take (.there .here)).drop
            have hst := (hst.take (.there .here)).drop
            exact ⟨false, hF, tp, hst⟩
        · have hF := cf hw55 hF
          have hw55_ := hw55
          try simp only [beq_eq_false_iff_ne, ne_eq] at hw55_
          refine RW.pass (by exact Wd.no (x := 134) (b := false) rfl (AF_ev rfl (Eq.trans tp (congrArg Value.bool hw55))) rfl) ?_
          refine RW.pass (by exact Wd.no (x := 134) (b := false) rfl (AF_ev rfl (up rfl (Eq.trans tp (congrArg Value.bool hw55)))) rfl) ?_
          refine RW.pass (by exact Wd.no (x := 134) (b := false) rfl (AF_ev rfl (up rfl (up rfl (Eq.trans tp (congrArg Value.bool hw55))))) rfl) ?_
          refine RW.soft Wd.a (v := .bool false) (by exact E.pickF (AF_ev rfl (up rfl (up rfl (up rfl (Eq.trans tp (congrArg Value.bool hw55)))))) rfl) ?_
          refine RW.soft Wd.a (v := .bool false) (by exact E.move (AF_ev rfl tp)) ?_
          refine RW.pass (by exact Wd.no (x := 139) (b := false) rfl (AF_ev rfl tp) rfl) ?_
          refine RW.pass (by exact Wd.no (x := 139) (b := false) rfl (AF_ev rfl (up rfl tp)) rfl) ?_
          refine RW.pass (by exact Wd.no (x := 139) (b := false) rfl (AF_ev rfl (up rfl (up rfl tp))) rfl) ?_
          refine RW.pass (by exact Wd.no (x := 139) (b := false) rfl (AF_ev rfl (up rfl (up rfl (up rfl tp)))) rfl) ?_
          refine RW.pass (by exact Wd.no (x := 139) (b := false) rfl (AF_ev rfl (up rfl (up rfl (up rfl (up rfl tp))))) rfl) ?_
          refine RW.soft Wd.a (v := .bool false) (by exact E.pickF (AF_ev rfl (up rfl (up rfl (up rfl (up rfl (up rfl tp)))))) rfl) ?_
          refine RW.soft Wd.a (v := .bool false) (by exact E.move (AF_ev rfl tp)) ?_
          refine RW.pass (by exact Wd.no (x := 146) (b := false) rfl (AF_ev rfl tp) rfl) ?_
          refine RW.pass (by exact Wd.no (x := 146) (b := false) rfl (AF_ev rfl (up rfl tp)) rfl) ?_
          refine RW.pass (by exact Wd.no (x := 146) (b := false) rfl (AF_ev rfl (up rfl (up rfl tp))) rfl) ?_
          refine RW.soft Wd.a (v := .bool false) (by exact E.pickF (AF_ev rfl (up rfl (up rfl (up rfl tp)))) rfl) ?_
          refine RW.soft Wd.a (v := .bool false) (by exact E.assign (AF_ev rfl tp)) ?_
          refine RW.nil ?_
          refine Th.n ?_
          have hst := hst.take (.there (.there .here))
          have hst := (hst.take (.there .here)).drop
          have hst := (hst.take (.there .here)).drop
          have hst := (hst.take (.there .here)).drop
          have hst := (hst.take (.there .here)).drop
          exact ⟨false, hF, tp, hst⟩
      · have hF := cf hw54 hF
        have hw54_ := hw54
        try simp only [beq_eq_false_iff_ne, ne_eq] at hw54_
        refine RW.pass (by exact Wd.no (x := 129) (b := false) rfl (AF_ev rfl (Eq.trans tp (congrArg Value.bool hw54))) rfl) ?_
        refine RW.pass (by exact Wd.no (x := 129) (b := false) rfl (AF_ev rfl (up rfl (Eq.trans tp (congrArg Value.bool hw54)))) rfl) ?_
        refine RW.pass (by exact Wd.no (x := 129) (b := false) rfl (AF_ev rfl (up rfl (up rfl (Eq.trans tp (congrArg Value.bool hw54))))) rfl) ?_
        refine RW.soft Wd.a (v := .bool false) (by exact E.pickF (AF_ev rfl (up rfl (up rfl (up rfl (Eq.trans tp (congrArg Value.bool hw54)))))) rfl) ?_
        refine RW.soft Wd.a (v := .bool false) (by exact E.move (AF_ev rfl tp)) ?_
        refine RW.pass (by exact Wd.no (x := 134) (b := false) rfl (AF_ev rfl tp) rfl) ?_
        refine RW.pass (by exact Wd.no (x := 134) (b := false) rfl (AF_ev rfl (up rfl tp)) rfl) ?_
        refine RW.pass (by exact Wd.no (x := 134) (b := false) rfl (AF_ev rfl (up rfl (up rfl tp))) rfl) ?_
        refine RW.soft Wd.a (v := .bool false) (by exact E.pickF (AF_ev rfl (up rfl (up rfl (up rfl tp)))) rfl) ?_
        refine RW.soft Wd.a (v := .bool false) (by exact E.move (AF_ev rfl tp)) ?_
        refine RW.pass (by exact Wd.no (x := 139) (b := false) rfl (AF_ev rfl tp) rfl) ?_
        refine RW.pass (by exact Wd.no (x := 139) (b := false) rfl (AF_ev rfl (up rfl tp)) rfl) ?_
        refine RW.pass (by exact Wd.no (x := 139) (b := false) rfl (AF_ev rfl (up rfl (up rfl tp))) rfl) ?_
        refine RW.pass (by exact Wd.no (x := 139) (b := false) rfl (AF_ev rfl (up rfl (up rfl (up rfl tp)))) rfl) ?_
        refine RW.pass (by exact Wd.no (x := 139) (b := false) rfl (AF_ev rfl (up rfl (up rfl (up rfl (up rfl tp))))) rfl) ?_
        refine RW.soft Wd.a (v := .bool false) (by exact E.pickF (AF_ev rfl (up rfl (up rfl (up rfl (up rfl (up rfl tp)))))) rfl) ?_
        refine RW.soft Wd.a (v := .bool false) (by exact E.move (AF_ev rfl tp)) ?_
        refine RW.pass (by exact Wd.no (x := 146) (b := false) rfl (AF_ev rfl tp) rfl) ?_
        refine RW.pass (by exact Wd.no (x := 146) (b := false) rfl (AF_ev rfl (up rfl tp)) rfl) ?_
        refine RW.pass (by exact Wd.no (x := 146) (b := false) rfl (AF_ev rfl (up rfl (up rfl tp))) rfl) ?_
        refine RW.soft Wd.a (v := .bool false) (by exact E.pickF (AF_ev rfl (up rfl (up rfl (up rfl tp)))) rfl) ?_
        refine RW.soft Wd.a (v := .bool false) (by exact E.assign (AF_ev rfl tp)) ?_
        refine RW.nil ?_
        refine Th.n ?_
        have hst := hst.take (.there (.there .here))
        have hst := (hst.take (.there .here)).drop
        have hst := (hst.take (.there .here)).drop
        have hst := (hst.take (.there .here)).drop
        have hst := (hst.take (.there .here)).drop
        exact ⟨false, hF, tp, hst⟩
    · have hF := cf hw53 hF
      refine RW.pass (by exact Wd.no (x := 124) (b := false) rfl (AF_ev rfl (Eq.trans tp (congrArg Value.bool hw53))) rfl) ?_
      refine RW.pass (by exact Wd.no (x := 124) (b := false) rfl (AF_ev rfl (up rfl (Eq.trans tp (congrArg Value.bool hw53)))) rfl) ?_
      refine RW.pass (by exact Wd.no (x := 124) (b := false) rfl (AF_ev rfl (up rfl (up rfl (Eq.trans tp (congrArg Value.bool hw53))))) rfl) ?_
      refine RW.soft Wd.a (v := .bool false) (by exact E.pickF (AF_ev rfl (up rfl (up rfl (up rfl (Eq.trans tp (congrArg Value.bool hw53)))))) rfl) ?_
      refine RW.soft Wd.a (v := .bool false) (by exact E.move (AF_ev rfl tp)) ?_
      refine RW.pass (by exact Wd.no (x := 129) (b := false) rfl (AF_ev rfl tp) rfl) ?_
      refine RW.pass (by exact Wd.no (x := 129) (b := false) rfl (AF_ev rfl (up rfl tp)) rfl) ?_
      refine RW.pass (by exact Wd.no (x := 129) (b := false) rfl (AF_ev rfl (up rfl (up rfl tp))) rfl) ?_
      refine RW.soft Wd.a (v := .bool false) (by exact E.pickF (AF_ev rfl (up rfl (up rfl (up rfl tp)))) rfl) ?_
      refine RW.soft Wd.a (v := .bool false) (by exact E.move (AF_ev rfl tp)) ?_
      refine RW.pass (by exact Wd.no (x := 134) (b := false) rfl (AF_ev rfl tp) rfl) ?_
      refine RW.pass (by exact Wd.no (x := 134) (b := false) rfl (AF_ev rfl (up rfl tp)) rfl) ?_
      refine RW.pass (by exact Wd.no (x := 134) (b := false) rfl (AF_ev rfl (up rfl (up rfl tp))) rfl) ?_
      refine RW.soft Wd.a (v := .bool false) (by exact E.pickF (AF_ev rfl (up rfl (up rfl (up rfl tp)))) rfl) ?_
      refine RW.soft Wd.a (v := .bool false) (by exact E.move (AF_ev rfl tp)) ?_
      refine RW.pass (by exact Wd.no (x := 139) (b := false) rfl (AF_ev rfl tp) rfl) ?_
      refine RW.pass (by exact Wd.no (x := 139) (b := false) rfl (AF_ev rfl (up rfl tp)) rfl) ?_
      refine RW.pass (by exact Wd.no (x := 139) (b := false) rfl (AF_ev rfl (up rfl (up rfl tp))) rfl) ?_
      refine RW.pass (by exact Wd.no (x := 139) (b := false) rfl (AF_ev rfl (up rfl (up rfl (up rfl tp)))) rfl) ?_
      refine RW.pass (by exact Wd.no (x := 139) (b := false) rfl (AF_ev rfl (up rfl (up rfl (up rfl (up rfl tp))))) rfl) ?_
      refine RW.soft Wd.a (v := .bool false) (by exact E.pickF (AF_ev rfl (up rfl (up rfl (up rfl (up rfl (up rfl tp)))))) rfl) ?_
      refine RW.soft Wd.a (v := .bool false) (by exact E.move (AF_ev rfl tp)) ?_
      refine RW.pass (by exact Wd.no (x := 146) (b := false) rfl (AF_ev rfl tp) rfl) ?_
      refine RW.pass (by exact Wd.no (x := 146) (b := false) rfl (AF_ev rfl (up rfl tp)) rfl) ?_
      refine RW.pass (by exact Wd.no (x := 146) (b := false) rfl (AF_ev rfl (up rfl (up rfl tp))) rfl) ?_
      refine RW.soft Wd.a (v := .bool false) (by exact E.pickF (AF_ev rfl (up rfl (up rfl (up rfl tp)))) rfl) ?_
      refine RW.soft Wd.a (v := .bool false) (by exact E.assign (AF_ev rfl tp)) ?_
      refine RW.nil ?_
      refine Th.n ?_
      have hst := hst.take (.there (.there .here))
      have hst := (hst.take (.there .here)).drop
      have hst := (hst.take (.there .here)).drop
      have hst := (hst.take (.there .here)).drop
      have hst := (hst.take (.there .here)).drop
      exact ⟨false, hF, tp, hst⟩
  rintro τ w ⟨j52, hF, hs6, hst⟩
  unfold EnvBlobs_j5 at hF
  refine CW.ret ?_
  refine ret1 (v := .bool j52) rfl (by exact (.tmp (AF_ev rfl hs6) .nil)) ?_
  rw [somE hF]
  exact ⟨rfl, hst⟩
end Go.Proofs.Ytjpjejldinpcnaa
