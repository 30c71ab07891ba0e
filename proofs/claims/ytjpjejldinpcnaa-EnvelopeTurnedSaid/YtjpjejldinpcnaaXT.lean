/- Functions that were walked through by a program: what each comes to, as a plain function, and the proof. -/
import Derived.Test.YtjpjejldinpcnaaX8
namespace Go.Proofs.Ytjpjejldinpcnaa
open Go.RowKit Go.SL Go.K13
attribute [local irreducible] Go.SL.RW Go.SL.CW Go.SL.RD Go.SL.Hd Go.SL.St
set_option linter.unusedVariables false
set_option linter.unusedSimpArgs false
set_option maxRecDepth 20000
set_option maxHeartbeats 4000000

theorem nm10 : (Try.f10.name == "runtime.NumGoroutine") = false := by kernel_rfl
theorem nm11 : (Try.f11.name == "runtime.NumGoroutine") = false := by kernel_rfl
theorem nm14 : (Try.f14.name == "runtime.NumGoroutine") = false := by kernel_rfl
theorem nm15 : (Try.f15.name == "runtime.NumGoroutine") = false := by kernel_rfl
theorem nm19 : (Try.f19.name == "runtime.NumGoroutine") = false := by kernel_rfl
theorem nm21 : (Try.f21.name == "runtime.NumGoroutine") = false := by kernel_rfl
theorem nm23 : (Try.f23.name == "runtime.NumGoroutine") = false := by kernel_rfl

def EnvTurned_j3   (j54 : Bool) : Option (Bool) :=
  some (j54)
def EnvTurned_j2 (o : List (BitVec 8)) (A' : Int) (r11 : List (BitVec 8) × Int × Int × RKB) (r13 : Int × Int × List (BitVec 8) × List (BitVec 8) × Int)  (j16 : Bool) : Option (Bool) :=
  bif j16 then
    some (false)
  else
    (Kind14 A' 128).bind fun r22 =>
    if 0 + r13.2.2.2.1.length ≤ 1000000 then
      lt_ (([] : List (BitVec 8)) ++ r13.2.2.2.1) fun s26 =>
      lt_ (w64 ((((s26.length : Nat) : Int) - 16) + (w64 (r22.tdiv 8)))) fun z29 =>
      lt_ (w64 ((((s26.length : Nat) : Int) - 16) + (w64 (r22.tdiv 8)))) fun z30 =>
      if 0 ≤ z30 ∧ (z30).toNat < s26.length then
        if 0 ≤ r22.tmod 8 then
          lt_ ((s26.getD ((z30).toNat) 0#8) ^^^ ((1#8) <<< ((r22.tmod 8).toNat))) fun u35 =>
          if 0 ≤ z29 ∧ (z29).toNat < s26.length then
            lt_ (s26.set ((z29).toNat) u35) fun m37 =>
            (Blob 1 1 r13.2.2.1 m37).bind fun r38 =>
            (Decrypt r11.2.2.2 r38 ([] : List (BitVec 8))).bind fun r40 =>
            (Blob 1 2 r13.2.2.1 r13.2.2.2.1).bind fun r42 =>
            (Decrypt r40.2.2 r42 ([] : List (BitVec 8))).bind fun r44 =>
            (Blob 2 1 r13.2.2.1 r13.2.2.2.1).bind fun r46 =>
            (Decrypt r44.2.2 r46 ([] : List (BitVec 8))).bind fun r48 =>
            (Blob 1 1 r13.2.2.1 r13.2.2.2.1).bind fun r50 =>
            (Decrypt r48.2.2 r50 ([] : List (BitVec 8))).bind fun r52 =>
            bif r40.2.1 == 40 then
              bif r44.2.1 == 130 then
                bif r48.2.1 == 130 then
                  bif r52.2.1 == 0 then
                    EnvTurned_j3 (r52.1 == o)
                  else
                    EnvTurned_j3 false
                else
                  EnvTurned_j3 false
              else
                EnvTurned_j3 false
            else
              EnvTurned_j3 false
          else none
        else none
      else none
    else none
def EnvTurned_j1 (t : List (BitVec 8)) (o : List (BitVec 8)) (A' : Int)  (j5 : Bool) : Option (Bool) :=
  bif j5 then
    some (false)
  else
    bif decide (((o.length : Nat) : Int) > 64) then
      some (true)
    else
      lt_ (bCreate ([] : RKB) t) fun r9 =>
      (Encrypt r9.2.2 1 o ([] : List (BitVec 8))).bind fun r11 =>
      (Read r11.1).bind fun r13 =>
      bif r11.2.2.1 != 0 then
        EnvTurned_j2 o A' r11 r13 true
      else
        bif r13.2.2.2.2 != 0 then
          EnvTurned_j2 o A' r11 r13 true
        else
          bif r13.1 != 1 then
            EnvTurned_j2 o A' r11 r13 true
          else
            bif r13.2.1 != 1 then
              EnvTurned_j2 o A' r11 r13 true
            else
              EnvTurned_j2 o A' r11 r13 (((r13.2.2.2.1.length : Nat) : Int) != (((o.length : Nat) : Int) + 16))
def EnvTurned (t : List (BitVec 8)) (o : List (BitVec 8)) (A' : Int) : Option (Bool) :=
  (Shown14).bind fun r2 =>
  bif !r2 then
    EnvTurned_j1 t o A' true
  else
    EnvTurned_j1 t o A' false
theorem EnvTurned_C {p : Pers} {w : World} {R : List Assn} {A : Assn} (t : List (BitVec 8)) (hl_t : t.length = 32) {X_o : Option Addr} {c_o : Nat} (o : List (BitVec 8)) (hm_o : o.length ≤ 9223372036854775807) (hS_o : ∀ w H, St p w (A :: H) → SL.Src w 1 (.slice X_o o.length c_o) o.length (o.map bu8)) (A' : Int) (hr_A' : -9223372036854775808 ≤ A' ∧ A' ≤ 9223372036854775807) (r : Bool) (hF : EnvTurned t o A' = some r) (hst : St p w (A :: R)) :
    Calls Try.prog 4 #[.agg ((t.map bu8)).toArray, .slice X_o o.length c_o, .int .i64 A'] w fun e w => e = .returned (.bool r) ∧ St p w (A :: R) := by
  unfold EnvTurned at hF
  refine enter Try.func4 rfl (by simp) (n := 157) rfl fun τ hτ => ?_
  have hs0 : τ 0 = .agg ((t.map bu8)).toArray := hτ 0 (by simp)
  have hs1 : τ 1 = .slice X_o o.length c_o := hτ 1 (by simp)
  have hs2 : τ 2 = .int .i64 A' := hτ 2 (by simp)
  clear hτ
  refine CW.seq ?_
  refine CW.region ?_
  refine RW.hard Wd.a ?_
  refine H.box (v := .agg ((t.map bu8)).toArray) (AF_ev rfl hs0) hst fun b1 w hst => ?_
  refine RW.soft Wd.a (v := .bool false) (by exact E.assign rfl) ?_
  refine RW.fin (fun τ => τ 0 = .agg ((t.map bu8)).toArray ∧ τ 1 = .slice X_o o.length c_o ∧ τ 2 = .int .i64 A' ∧ τ 3 = .pointer (some ⟨b1, 0, none⟩) ∧ τ 6 = .bool false) ⟨up rfl (up rfl hs0), up rfl (up rfl hs1), up rfl (up rfl hs2), up rfl tp, tp⟩ ?_
  rintro τ ⟨hs0, hs1, hs2, hs3, hs6⟩
  refine CW.seq ?_
  refine CW.region ?_
  obtain ⟨r2, h_r2, hF⟩ := bd hF
  refine RW.hard Wd.a ?_
  refine H.call0 Try.func10 nm10 rfl map0 (Calls.mono (Shown14_C  r2 h_r2 hst) ?_)
  rintro _ w ⟨rfl, hst⟩
  refine ⟨_, rfl, ?_⟩
  show RW _ _ _ _ _ _ _
  refine RW.soft Wd.a (v := .bool r2) (by exact E.assign (AF_ev rfl tp)) ?_
  refine RW.fin (fun τ => τ 0 = .agg ((t.map bu8)).toArray ∧ τ 1 = .slice X_o o.length c_o ∧ τ 2 = .int .i64 A' ∧ τ 3 = .pointer (some ⟨b1, 0, none⟩) ∧ τ 6 = .bool false ∧ τ 7 = .bool r2) ⟨up rfl (up rfl hs0), up rfl (up rfl hs1), up rfl (up rfl hs2), up rfl (up rfl hs3), up rfl (up rfl hs6), tp⟩ ?_
  rintro τ ⟨hs0, hs1, hs2, hs3, hs6, hs7⟩
  refine CW.seq ?_
  refine CW.region ?_
  refine RW.hard Wd.a ?_
  refine H.call0 Try.func16 nm16 rfl map0 (Calls.mono (New_B hst) ?_)
  rintro _ w ⟨b4, rfl, hst⟩
  refine ⟨_, rfl, ?_⟩
  show RW _ _ _ _ _ _ _
  refine RW.soft Wd.a (v := .pointer (some ⟨b4, 0, none⟩)) (by exact E.assign (AF_ev rfl tp)) ?_
  refine RW.fin (fun τ => τ 0 = .agg ((t.map bu8)).toArray ∧ τ 1 = .slice X_o o.length c_o ∧ τ 2 = .int .i64 A' ∧ τ 3 = .pointer (some ⟨b1, 0, none⟩) ∧ τ 6 = .bool false ∧ τ 7 = .bool r2 ∧ τ 8 = .pointer (some ⟨b4, 0, none⟩)) ⟨up rfl (up rfl hs0), up rfl (up rfl hs1), up rfl (up rfl hs2), up rfl (up rfl hs3), up rfl (up rfl hs6), up rfl (up rfl hs7), tp⟩ ?_
  rintro τ ⟨hs0, hs1, hs2, hs3, hs6, hs7, hs8⟩
  refine CW.seq ?_
  refine CW.seqJ (fun τ w => ∃ (j5 : Bool), EnvTurned_j1 t o A' j5 = some r ∧ τ 1 = .slice X_o o.length c_o ∧ τ 2 = .int .i64 A' ∧ τ 3 = .pointer (some ⟨b1, 0, none⟩) ∧ τ 6 = .bool false ∧ τ 8 = .pointer (some ⟨b4, 0, none⟩) ∧ τ 34 = .bool j5 ∧ St p w (KeysB 103 b4 ([] : RKB) :: pt b1 (.cells ((t.map bu8)).toArray 34) :: A :: R)) ?_ ?_
  · skip
    refine CW.region ?_
    refine RW.soft Wd.a (v := .bool r2) (by exact E.move (AF_ev rfl hs7)) ?_
    refine RW.soft Wd.a (v := .bool (!r2)) (by exact E.not (b := r2) (AF_ev rfl tp)) ?_
    refine RW.soft Wd.a (v := .bool (!r2)) (by exact E.move (AF_ev rfl tp)) ?_
    refine Or.elim (Bool.eq_false_or_eq_true (!r2)) (fun hw6 => ?_) (fun hw6 => ?_)
    · have hF := ct hw6 hF
      have hw6_ := hw6
      try simp only [Bool.not_eq_true', Bool.not_eq_false'] at hw6_
      refine RW.pass (by exact Wd.no (x := 31) (b := true) rfl (AF_ev rfl (Eq.trans tp (congrArg Value.bool hw6))) rfl) ?_
      refine RW.pass (by exact Wd.no (x := 31) (b := true) rfl (AF_ev rfl (up rfl (Eq.trans tp (congrArg Value.bool hw6)))) rfl) ?_
      refine RW.soft Wd.a (v := .bool true) (by exact E.pickT (AF_ev rfl (up rfl (up rfl (Eq.trans tp (congrArg Value.bool hw6))))) rfl) ?_
      refine RW.nil ?_
      refine Th.n ?_
      have hst := hst.take (.there (.there .here))
      have hst := hst.take (.there (.there .here))
      have hst := hst.take (.there (.there .here))
      exact ⟨true, hF, up rfl (up rfl (up rfl (up rfl (up rfl (up rfl hs1))))), up rfl (up rfl (up rfl (up rfl (up rfl (up rfl hs2))))), up rfl (up rfl (up rfl (up rfl (up rfl (up rfl hs3))))), up rfl (up rfl (up rfl (up rfl (up rfl (up rfl hs6))))), up rfl (up rfl (up rfl (up rfl (up rfl (up rfl hs8))))), tp, hst⟩
    · have hF := cf hw6 hF
      have hw6_ := hw6
      try simp only [Bool.not_eq_true', Bool.not_eq_false'] at hw6_
      refine RW.soft (by exact Wd.yes (x := 31) rfl (AF_ev rfl (Eq.trans tp (congrArg Value.bool hw6)))) (v := .pointer (some ⟨b4, 0, none⟩)) (by exact E.move (AF_ev rfl (up rfl (up rfl (up rfl hs8))))) ?_
      refine RW.soft (by exact Wd.yes (x := 31) rfl (AF_ev rfl (up rfl (Eq.trans tp (congrArg Value.bool hw6))))) (v := .bool false) (by exact E.eqlP (p := (some ⟨b4, 0, none⟩)) Try.underlying35 (AF_ev rfl tp) rfl) ?_
      refine RW.soft Wd.a (v := .bool false) (by exact E.pickF (AF_ev rfl (up rfl (up rfl (Eq.trans tp (congrArg Value.bool hw6))))) (AF_ev rfl tp)) ?_
      refine RW.nil ?_
      refine Th.n ?_
      have hst := hst.take (.there (.there .here))
      have hst := hst.take (.there (.there .here))
      have hst := hst.take (.there (.there .here))
      exact ⟨false, hF, up rfl (up rfl (up rfl (up rfl (up rfl (up rfl hs1))))), up rfl (up rfl (up rfl (up rfl (up rfl (up rfl hs2))))), up rfl (up rfl (up rfl (up rfl (up rfl (up rfl hs3))))), up rfl (up rfl (up rfl (up rfl (up rfl (up rfl hs6))))), up rfl (up rfl (up rfl (up rfl (up rfl (up rfl hs8))))), tp, hst⟩
  rintro τ w ⟨j5, hF, hs1, hs2, hs3, hs6, hs8, hs34, hst⟩
  unfold EnvTurned_j1 at hF
  refine CW.cond (AF_ev rfl hs34) (fun hc7 => ?_) (fun hc7 => ?_)
  · have hF := ct hc7 hF
    refine CW.seq ?_
    refine CW.region ?_
    refine RW.soft Wd.a (v := .bool false) (by exact E.assign rfl) ?_
    refine RW.fin (fun τ => τ 1 = .slice X_o o.length c_o ∧ τ 2 = .int .i64 A' ∧ τ 3 = .pointer (some ⟨b1, 0, none⟩) ∧ τ 6 = .bool false ∧ τ 8 = .pointer (some ⟨b4, 0, none⟩) ∧ τ 34 = .bool true) ⟨up rfl hs1, up rfl hs2, up rfl hs3, tp, up rfl hs8, up rfl (Eq.trans hs34 (congrArg Value.bool hc7))⟩ ?_
    rintro τ ⟨hs1, hs2, hs3, hs6, hs8, hs34⟩
    refine CW.ret ?_
    refine Th.r ?_
    refine ret1 (v := .bool false) rfl (by exact (.tmp (AF_ev rfl hs6) .nil)) ?_
    have hst := hst.take (.there (.there .here))
    have hst := (hst.take (.there .here)).drop
    have hst := (hst.take (.there .here)).drop
    rw [somE hF]
    exact ⟨rfl, hst⟩
  · have hF := cf hc7 hF
    refine CW.skip ?_
    refine Th.n ?_
    refine CW.seq ?_
    refine CW.seq ?_
    refine CW.region ?_
    refine RW.soft Wd.a (v := .slice X_o o.length c_o) (by exact E.move (AF_ev rfl hs1)) ?_
    refine RW.soft Wd.a (v := .int .i64 ((o.length : Nat) : Int)) (by exact E.lenS (p := X_o) (l := o.length) (c := c_o) Try.underlying25 (AF_ev rfl tp)) ?_
    refine RW.soft Wd.a (v := .bool (decide (((o.length : Nat) : Int) > 64))) (by exact E.gtr (k := .i64) (a := ((o.length : Nat) : Int)) (b := 64) (AF_ev rfl tp) rfl) ?_
    refine RW.fin (fun τ => τ 1 = .slice X_o o.length c_o ∧ τ 2 = .int .i64 A' ∧ τ 3 = .pointer (some ⟨b1, 0, none⟩) ∧ τ 6 = .bool false ∧ τ 8 = .pointer (some ⟨b4, 0, none⟩) ∧ τ 34 = .bool false ∧ τ 37 = .bool (decide (((o.length : Nat) : Int) > 64))) ⟨up rfl (up rfl (up rfl hs1)), up rfl (up rfl (up rfl hs2)), up rfl (up rfl (up rfl hs3)), up rfl (up rfl (up rfl hs6)), up rfl (up rfl (up rfl hs8)), up rfl (up rfl (up rfl (Eq.trans hs34 (congrArg Value.bool hc7)))), tp⟩ ?_
    rintro τ ⟨hs1, hs2, hs3, hs6, hs8, hs34, hs37⟩
    refine CW.cond (AF_ev rfl hs37) (fun hc8 => ?_) (fun hc8 => ?_)
    · have hF := ct hc8 hF
      have hc8_ := hc8
      try simp only [decide_eq_true_eq, gt_iff_lt, ge_iff_le] at hc8_
      refine CW.seq ?_
      refine CW.region ?_
      refine RW.soft Wd.a (v := .bool true) (by exact E.assign rfl) ?_
      refine RW.fin (fun τ => τ 1 = .slice X_o o.length c_o ∧ τ 2 = .int .i64 A' ∧ τ 3 = .pointer (some ⟨b1, 0, none⟩) ∧ τ 6 = .bool true ∧ τ 8 = .pointer (some ⟨b4, 0, none⟩) ∧ τ 34 = .bool false ∧ τ 37 = .bool true) ⟨up rfl hs1, up rfl hs2, up rfl hs3, tp, up rfl hs8, up rfl hs34, up rfl (Eq.trans hs37 (congrArg Value.bool hc8))⟩ ?_
      rintro τ ⟨hs1, hs2, hs3, hs6, hs8, hs34, hs37⟩
      refine CW.ret ?_
      refine Th.r ?_
      refine ret1 (v := .bool true) rfl (by exact (.tmp (AF_ev rfl hs6) .nil)) ?_
      have hst := hst.take (.there (.there .here))
      have hst := (hst.take (.there .here)).drop
      have hst := (hst.take (.there .here)).drop
      rw [somE hF]
      exact ⟨rfl, hst⟩
    · have hF := cf hc8 hF
      have hc8_ := hc8
      try simp only [decide_eq_false_iff_not, Int.not_lt, Int.not_le, gt_iff_lt, ge_iff_le] at hc8_
      refine CW.skip ?_
      refine Th.n ?_
      refine CW.seq ?_
      refine CW.region ?_
      refine RW.soft Wd.a (v := .pointer (some ⟨b4, 0, none⟩)) (by exact E.move (AF_ev rfl hs8)) ?_
      refine RW.soft Wd.a (v := .agg ((t.map bu8)).toArray) (by exact E.loadN (b := b1) (o := 0) (cs := (t.map bu8)) Try.underlying34 rfl sz34 (AF_ev rfl (up rfl hs3)) ((List.length_map _).trans hl_t) (St.cellsOf hst (.there .here) allF)) ?_
      obtain ⟨r9, h_r9, hF⟩ := lp hF
      refine RW.hard Wd.a ?_
      refine H.call0 Try.func17 nm17 rfl (map2 (AF_ev rfl (up rfl tp)) (AF_ev rfl tp)) (Calls.mono (Create_B   t hl_t r9 h_r9 hst) ?_)
      rintro _ w ⟨rfl, h1q10, h2q10, hst⟩
      refine ⟨_, rfl, ?_⟩
      show RW _ _ _ _ _ _ _
      refine RW.fin (fun τ => τ 1 = .slice X_o o.length c_o ∧ τ 2 = .int .i64 A' ∧ τ 3 = .pointer (some ⟨b1, 0, none⟩) ∧ τ 6 = .bool false ∧ τ 8 = .pointer (some ⟨b4, 0, none⟩) ∧ τ 34 = .bool false ∧ τ 37 = .bool false) ⟨up rfl (up rfl (up rfl hs1)), up rfl (up rfl (up rfl hs2)), up rfl (up rfl (up rfl hs3)), up rfl (up rfl (up rfl hs6)), up rfl (up rfl (up rfl hs8)), up rfl (up rfl (up rfl hs34)), up rfl (up rfl (up rfl (Eq.trans hs37 (congrArg Value.bool hc8))))⟩ ?_
      rintro τ ⟨hs1, hs2, hs3, hs6, hs8, hs34, hs37⟩
      refine CW.seq ?_
      refine CW.region ?_
      refine RW.soft Wd.a (v := .pointer (some ⟨b4, 0, none⟩)) (by exact E.move (AF_ev rfl hs8)) ?_
      refine RW.soft Wd.a (v := .slice X_o o.length c_o) (by exact E.move (AF_ev rfl (up rfl hs1))) ?_
      obtain ⟨r11, h_r11, hF⟩ := bd hF
      have hst := hst.take (.there (.there .here))
      have hst := hst.take (.there .here)
      refine RW.hard Wd.a ?_
      refine H.call0 Try.func18 nm18 rfl (map4 (AF_ev rfl (up rfl tp)) rfl (AF_ev rfl tp) rfl) (Calls.mono (Encrypt_C (A := A) r9.2.2 1 (by omega) o (by first | omega | (simp; done)) (fun w H s => (hS_o _ _ s)) ([] : List (BitVec 8)) (by first | omega | (simp; done)) (fun w H s => Src.nil) r11 h_r11 hst) ?_)
      rintro _ w ⟨Xq12_0, cq12_0, rfl, hm_q12_0, hr_q12_1, hr_q12_2, hst⟩
      refine ⟨_, rfl, ?_⟩
      show RW _ _ _ _ _ _ _
      refine RW.soft Wd.a (v := .tuple #[.slice Xq12_0 r11.1.length cq12_0, .int .i64 r11.2.1, .int .i64 r11.2.2.1]) (by exact E.move (AF_ev rfl tp)) ?_
      refine RW.soft Wd.a (v := .slice Xq12_0 r11.1.length cq12_0) (by exact E.extract (vs := #[.slice Xq12_0 r11.1.length cq12_0, .int .i64 r11.2.1, .int .i64 r11.2.2.1]) (AF_ev rfl tp) rfl) ?_
      refine RW.soft Wd.a (v := .int .i64 r11.2.1) (by exact E.extract (vs := #[.slice Xq12_0 r11.1.length cq12_0, .int .i64 r11.2.1, .int .i64 r11.2.2.1]) (AF_ev rfl (up rfl tp)) rfl) ?_
      refine RW.soft Wd.a (v := .int .i64 r11.2.2.1) (by exact E.extract (vs := #[.slice Xq12_0 r11.1.length cq12_0, .int .i64 r11.2.1, .int .i64 r11.2.2.1]) (AF_ev rfl (up rfl (up rfl tp))) rfl) ?_
      refine RW.soft Wd.a (v := .slice Xq12_0 r11.1.length cq12_0) (by exact E.assign (AF_ev rfl (up rfl (up rfl tp)))) ?_
      refine RW.soft Wd.a (v := .int .i64 r11.2.1) (by exact E.assign (AF_ev rfl (up rfl (up rfl tp)))) ?_
      refine RW.soft Wd.a (v := .int .i64 r11.2.2.1) (by exact E.assign (AF_ev rfl (up rfl (up rfl tp)))) ?_
      refine RW.fin (fun τ => τ 1 = .slice X_o o.length c_o ∧ τ 2 = .int .i64 A' ∧ τ 3 = .pointer (some ⟨b1, 0, none⟩) ∧ τ 6 = .bool false ∧ τ 8 = .pointer (some ⟨b4, 0, none⟩) ∧ τ 9 = .slice Xq12_0 r11.1.length cq12_0 ∧ τ 11 = .int .i64 r11.2.2.1 ∧ τ 34 = .bool false ∧ τ 37 = .bool false) ⟨up rfl (up rfl (up rfl (up rfl (up rfl (up rfl (up rfl (up rfl (up rfl (up rfl hs1))))))))), up rfl (up rfl (up rfl (up rfl (up rfl (up rfl (up rfl (up rfl (up rfl (up rfl hs2))))))))), up rfl (up rfl (up rfl (up rfl (up rfl (up rfl (up rfl (up rfl (up rfl (up rfl hs3))))))))), up rfl (up rfl (up rfl (up rfl (up rfl (up rfl (up rfl (up rfl (up rfl (up rfl hs6))))))))), up rfl (up rfl (up rfl (up rfl (up rfl (up rfl (up rfl (up rfl (up rfl (up rfl hs8))))))))), up rfl (up rfl tp), tp, up rfl (up rfl (up rfl (up rfl (up rfl (up rfl (up rfl (up rfl (up rfl (up rfl hs34))))))))), up rfl (up rfl (up rfl (up rfl (up rfl (up rfl (up rfl (up rfl (up rfl (up rfl hs37)))))))))⟩ ?_
      rintro τ ⟨hs1, hs2, hs3, hs6, hs8, hs9, hs11, hs34, hs37⟩
      refine CW.seq ?_
      refine CW.region ?_
      refine RW.soft Wd.a (v := .slice Xq12_0 r11.1.length cq12_0) (by exact E.move (AF_ev rfl hs9)) ?_
      obtain ⟨r13, h_r13, hF⟩ := bd hF
      refine RW.hard Wd.a ?_
      refine H.call0 Try.func13 nm13 rfl (map1 (AF_ev rfl tp)) (Calls.mono (Read_C (A := SL.Own 5 1 (.slice Xq12_0 r11.1.length cq12_0) r11.1.length (r11.1.map bu8)) r11.1 (by first | omega | (simp; done)) (fun w H s => (Own.src s)) r13 h_r13 hst) ?_)
      rintro _ w ⟨Xq14_3, cq14_3, rfl, hr_q14_0, hr_q14_1, hl_q14_2, hm_q14_3, hr_q14_4, hst⟩
      refine ⟨_, rfl, ?_⟩
      show RW _ _ _ _ _ _ _
      refine RW.soft Wd.a (v := .tuple #[.int .i64 r13.1, .int .i64 r13.2.1, .agg ((r13.2.2.1.map bu8)).toArray, .slice Xq14_3 r13.2.2.2.1.length cq14_3, .int .i64 r13.2.2.2.2]) (by exact E.move (AF_ev rfl tp)) ?_
      refine RW.soft Wd.a (v := .int .i64 r13.1) (by exact E.extract (vs := #[.int .i64 r13.1, .int .i64 r13.2.1, .agg ((r13.2.2.1.map bu8)).toArray, .slice Xq14_3 r13.2.2.2.1.length cq14_3, .int .i64 r13.2.2.2.2]) (AF_ev rfl tp) rfl) ?_
      refine RW.soft Wd.a (v := .int .i64 r13.2.1) (by exact E.extract (vs := #[.int .i64 r13.1, .int .i64 r13.2.1, .agg ((r13.2.2.1.map bu8)).toArray, .slice Xq14_3 r13.2.2.2.1.length cq14_3, .int .i64 r13.2.2.2.2]) (AF_ev rfl (up rfl tp)) rfl) ?_
      refine RW.soft Wd.a (v := .agg ((r13.2.2.1.map bu8)).toArray) (by exact E.extract (vs := #[.int .i64 r13.1, .int .i64 r13.2.1, .agg ((r13.2.2.1.map bu8)).toArray, .slice Xq14_3 r13.2.2.2.1.length cq14_3, .int .i64 r13.2.2.2.2]) (AF_ev rfl (up rfl (up rfl tp))) rfl) ?_
      refine RW.soft Wd.a (v := .slice Xq14_3 r13.2.2.2.1.length cq14_3) (by exact E.extract (vs := #[.int .i64 r13.1, .int .i64 r13.2.1, .agg ((r13.2.2.1.map bu8)).toArray, .slice Xq14_3 r13.2.2.2.1.length cq14_3, .int .i64 r13.2.2.2.2]) (AF_ev rfl (up rfl (up rfl (up rfl tp)))) rfl) ?_
      refine RW.soft Wd.a (v := .int .i64 r13.2.2.2.2) (by exact E.extract (vs := #[.int .i64 r13.1, .int .i64 r13.2.1, .agg ((r13.2.2.1.map bu8)).toArray, .slice Xq14_3 r13.2.2.2.1.length cq14_3, .int .i64 r13.2.2.2.2]) (AF_ev rfl (up rfl (up rfl (up rfl (up rfl tp))))) rfl) ?_
      refine RW.hard Wd.a ?_
      refine H.alloc zs24 hst fun b15 w hst => ?_
      refine RW.soft Wd.a (v := .int .i64 r13.1) (by exact E.assign (AF_ev rfl (up rfl (up rfl (up rfl (up rfl (up rfl tp))))))) ?_
      refine RW.soft Wd.a (v := .int .i64 r13.2.1) (by exact E.assign (AF_ev rfl (up rfl (up rfl (up rfl (up rfl (up rfl tp))))))) ?_
      refine RW.hard Wd.a ?_
      refine H.storeL (b := b15) (o := 0) (m := 12) (v := .agg ((r13.2.2.1.map bu8)).toArray) (ys := (r13.2.2.1.map bu8)) (L' := (r13.2.2.1.map bu8)) (AF_ev rfl (up rfl (up rfl tp))) (AF_ev rfl (up rfl (up rfl (up rfl (up rfl (up rfl tp)))))) hst .here sz24 rfl ((List.length_map _).trans hl_q14_2) (ones_map (fun _ => rfl)) (putW (Eq.trans (show (r13.2.2.1.map bu8).length = 12 from ((List.length_map _).trans hl_q14_2)) (Eq.symm (show ((List.replicate 12 0#8).map bu8).length = 12 from ((List.length_map _).trans (List.length_replicate)))))) fun w hst => ?_
      refine RW.soft Wd.a (v := .slice Xq14_3 r13.2.2.2.1.length cq14_3) (by exact E.assign (AF_ev rfl (u0 (up rfl (up rfl (up rfl (up rfl tp))))))) ?_
      refine RW.soft Wd.a (v := .int .i64 r13.2.2.2.2) (by exact E.assign (AF_ev rfl (up rfl (u0 (up rfl (up rfl (up rfl tp))))))) ?_
      refine RW.fin (fun τ => τ 1 = .slice X_o o.length c_o ∧ τ 2 = .int .i64 A' ∧ τ 3 = .pointer (some ⟨b1, 0, none⟩) ∧ τ 6 = .bool false ∧ τ 8 = .pointer (some ⟨b4, 0, none⟩) ∧ τ 9 = .slice Xq12_0 r11.1.length cq12_0 ∧ τ 11 = .int .i64 r11.2.2.1 ∧ τ 12 = .int .i64 r13.1 ∧ τ 13 = .int .i64 r13.2.1 ∧ τ 14 = .pointer (some ⟨b15, 0, none⟩) ∧ τ 15 = .slice Xq14_3 r13.2.2.2.1.length cq14_3 ∧ τ 16 = .int .i64 r13.2.2.2.2 ∧ τ 34 = .bool false ∧ τ 37 = .bool false) ⟨up rfl (up rfl (u0 (up rfl (up rfl (up rfl (up rfl (up rfl (up rfl (up rfl (up rfl (up rfl (up rfl (up rfl hs1))))))))))))), up rfl (up rfl (u0 (up rfl (up rfl (up rfl (up rfl (up rfl (up rfl (up rfl (up rfl (up rfl (up rfl (up rfl hs2))))))))))))), up rfl (up rfl (u0 (up rfl (up rfl (up rfl (up rfl (up rfl (up rfl (up rfl (up rfl (up rfl (up rfl (up rfl hs3))))))))))))), up rfl (up rfl (u0 (up rfl (up rfl (up rfl (up rfl (up rfl (up rfl (up rfl (up rfl (up rfl (up rfl (up rfl hs6))))))))))))), up rfl (up rfl (u0 (up rfl (up rfl (up rfl (up rfl (up rfl (up rfl (up rfl (up rfl (up rfl (up rfl (up rfl hs8))))))))))))), up rfl (up rfl (u0 (up rfl (up rfl (up rfl (up rfl (up rfl (up rfl (up rfl (up rfl (up rfl (up rfl (up rfl hs9))))))))))))), up rfl (up rfl (u0 (up rfl (up rfl (up rfl (up rfl (up rfl (up rfl (up rfl (up rfl (up rfl (up rfl (up rfl hs11))))))))))))), up rfl (up rfl (u0 (up rfl tp))), up rfl (up rfl (u0 tp)), up rfl (up rfl (u0 (up rfl (up rfl tp)))), up rfl tp, tp, up rfl (up rfl (u0 (up rfl (up rfl (up rfl (up rfl (up rfl (up rfl (up rfl (up rfl (up rfl (up rfl (up rfl hs34))))))))))))), up rfl (up rfl (u0 (up rfl (up rfl (up rfl (up rfl (up rfl (up rfl (up rfl (up rfl (up rfl (up rfl (up rfl hs37)))))))))))))⟩ ?_
      rintro τ ⟨hs1, hs2, hs3, hs6, hs8, hs9, hs11, hs12, hs13, hs14, hs15, hs16, hs34, hs37⟩
      refine CW.seq ?_
      refine CW.seqJ (fun τ w => ∃ (j16 : Bool), EnvTurned_j2 o A' r11 r13 j16 = some r ∧ τ 1 = .slice X_o o.length c_o ∧ τ 2 = .int .i64 A' ∧ τ 6 = .bool false ∧ τ 8 = .pointer (some ⟨b4, 0, none⟩) ∧ τ 14 = .pointer (some ⟨b15, 0, none⟩) ∧ τ 15 = .slice Xq14_3 r13.2.2.2.1.length cq14_3 ∧ τ 77 = .bool j16 ∧ St p w (pt b15 (.cells ((r13.2.2.1.map bu8)).toArray 24) :: Tel (.slice Xq14_3 r13.2.2.2.1.length cq14_3) r13.2.2.2.1 :: KeysB 103 b4 r11.2.2.2 :: A :: R)) ?_ ?_
      · skip
        refine CW.region ?_
        refine RW.soft Wd.a (v := .int .i64 r11.2.2.1) (by exact E.move (AF_ev rfl hs11)) ?_
        refine RW.soft Wd.a (v := .bool (r11.2.2.1 != 0)) (by exact E.neq (k := .i64) (a := r11.2.2.1) (b := 0) (AF_ev rfl tp) rfl) ?_
        refine RW.soft Wd.a (v := .bool (r11.2.2.1 != 0)) (by exact E.move (AF_ev rfl tp)) ?_
        refine Or.elim (Bool.eq_false_or_eq_true (r11.2.2.1 != 0)) (fun hw17 => ?_) (fun hw17 => ?_)
        · have hF := ct hw17 hF
          have hw17_ := hw17
          try simp only [bne_iff_ne, ne_eq] at hw17_
          refine RW.pass (by exact Wd.no (x := 58) (b := true) rfl (AF_ev rfl (Eq.trans tp (congrArg Value.bool hw17))) rfl) ?_
          refine RW.pass (by exact Wd.no (x := 58) (b := true) rfl (AF_ev rfl (up rfl (Eq.trans tp (congrArg Value.bool hw17)))) rfl) ?_
          refine RW.soft Wd.a (v := .bool true) (by exact E.pickT (AF_ev rfl (up rfl (up rfl (Eq.trans tp (congrArg Value.bool hw17))))) rfl) ?_
          refine RW.soft Wd.a (v := .bool true) (by exact E.move (AF_ev rfl tp)) ?_
          refine RW.pass (by exact Wd.no (x := 62) (b := true) rfl (AF_ev rfl tp) rfl) ?_
          refine RW.pass (by exact Wd.no (x := 62) (b := true) rfl (AF_ev rfl (up rfl tp)) rfl) ?_
          refine RW.soft Wd.a (v := .bool true) (by exact E.pickT (AF_ev rfl (up rfl (up rfl tp))) rfl) ?_
          refine RW.soft Wd.a (v := .bool true) (by exact E.move (AF_ev rfl tp)) ?_
          refine RW.pass (by exact Wd.no (x := 66) (b := true) rfl (AF_ev rfl tp) rfl) ?_
          refine RW.pass (by exact Wd.no (x := 66) (b := true) rfl (AF_ev rfl (up rfl tp)) rfl) ?_
          refine RW.soft Wd.a (v := .bool true) (by exact E.pickT (AF_ev rfl (up rfl (up rfl tp))) rfl) ?_
          refine RW.soft Wd.a (v := .bool true) (by exact E.move (AF_ev rfl tp)) ?_
          refine RW.pass (by exact Wd.no (x := 70) (b := true) rfl (AF_ev rfl tp) rfl) ?_
          refine RW.pass (by exact Wd.no (x := 70) (b := true) rfl (AF_ev rfl (up rfl tp)) rfl) ?_
          refine RW.pass (by exact Wd.no (x := 70) (b := true) rfl (AF_ev rfl (up rfl (up rfl tp))) rfl) ?_
          refine RW.pass (by exact Wd.no (x := 70) (b := true) rfl (AF_ev rfl (up rfl (up rfl (up rfl tp)))) rfl) ?_
          refine RW.pass (by exact Wd.no (x := 70) (b := true) rfl (AF_ev rfl (up rfl (up rfl (up rfl (up rfl tp))))) rfl) ?_
          refine RW.pass (by exact Wd.no (x := 70) (b := true) rfl (AF_ev rfl (up rfl (up rfl (up rfl (up rfl (up rfl tp)))))) rfl) ?_
          refine RW.soft Wd.a (v := .bool true) (by exact E.pickT (AF_ev rfl (up rfl (up rfl (up rfl (up rfl (up rfl (up rfl tp))))))) rfl) ?_
          refine RW.nil ?_
          refine Th.n ?_
          have hst := hst.take (.there (.there (.there (.there .here))))
          have hst := hst.take (.there (.there (.there (.there .here))))
          have hst := hst.take (.there (.there (.there .here)))
          have hst := hst.take (.there (.there (.there .here)))
          have hst := (hst.take (.there (.there (.there (.there .here))))).drop
          have hst := (hst.take (.there (.there (.there (.there .here))))).drop
          exact ⟨true, hF, up rfl (up rfl (up rfl (up rfl (up rfl (up rfl (up rfl (up rfl (up rfl (up rfl (up rfl (up rfl (up rfl (up rfl (up rfl (up rfl (up rfl (up rfl (up rfl (up rfl (up rfl (up rfl hs1))))))))))))))))))))), up rfl (up rfl (up rfl (up rfl (up rfl (up rfl (up rfl (up rfl (up rfl (up rfl (up rfl (up rfl (up rfl (up rfl (up rfl (up rfl (up rfl (up rfl (up rfl (up rfl (up rfl (up rfl hs2))))))))))))))))))))), up rfl (up rfl (up rfl (up rfl (up rfl (up rfl (up rfl (up rfl (up rfl (up rfl (up rfl (up rfl (up rfl (up rfl (up rfl (up rfl (up rfl (up rfl (up rfl (up rfl (up rfl (up rfl hs6))))))))))))))))))))), up rfl (up rfl (up rfl (up rfl (up rfl (up rfl (up rfl (up rfl (up rfl (up rfl (up rfl (up rfl (up rfl (up rfl (up rfl (up rfl (up rfl (up rfl (up rfl (up rfl (up rfl (up rfl hs8))))))))))))))))))))), up rfl (up rfl (up rfl (up rfl (up rfl (up rfl (up rfl (up rfl (up rfl (up rfl (up rfl (up rfl (up rfl (up rfl (up rfl (up rfl (up rfl (up rfl (up rfl (up rfl (up rfl (up rfl hs14))))))))))))))))))))), up rfl (up rfl (up rfl (up rfl (up rfl (up rfl (up rfl (up rfl (up rfl (up rfl (up rfl (up rfl (up rfl (up rfl (up rfl (up rfl (up rfl (up rfl (up rfl (up rfl (up rfl (up rfl hs15))))))))))))))))))))), tp, hst⟩
        · have hF := cf hw17 hF
          have hw17_ := hw17
          try simp only [bne_eq_false_iff_eq] at hw17_
          refine RW.soft (by exact Wd.yes (x := 58) rfl (AF_ev rfl (Eq.trans tp (congrArg Value.bool hw17)))) (v := .int .i64 r13.2.2.2.2) (by exact E.move (AF_ev rfl (up rfl (up rfl (up rfl hs16))))) ?_
          refine RW.soft (by exact Wd.yes (x := 58) rfl (AF_ev rfl (up rfl (Eq.trans tp (congrArg Value.bool hw17))))) (v := .bool (r13.2.2.2.2 != 0)) (by exact E.neq (k := .i64) (a := r13.2.2.2.2) (b := 0) (AF_ev rfl tp) rfl) ?_
          refine RW.soft Wd.a (v := .bool (r13.2.2.2.2 != 0)) (by exact E.pickF (AF_ev rfl (up rfl (up rfl (Eq.trans tp (congrArg Value.bool hw17))))) (AF_ev rfl tp)) ?_
          refine RW.soft Wd.a (v := .bool (r13.2.2.2.2 != 0)) (by exact E.move (AF_ev rfl tp)) ?_
          refine Or.elim (Bool.eq_false_or_eq_true (r13.2.2.2.2 != 0)) (fun hw18 => ?_) (fun hw18 => ?_)
          · have hF := ct hw18 hF
            have hw18_ := hw18
            try simp only [bne_iff_ne, ne_eq] at hw18_
            refine RW.pass (by exact Wd.no (x := 62) (b := true) rfl (AF_ev rfl (Eq.trans tp (congrArg Value.bool hw18))) rfl) ?_
            refine RW.pass (by exact Wd.no (x := 62) (b := true) rfl (AF_ev rfl (up rfl (Eq.trans tp (congrArg Value.bool hw18)))) rfl) ?_
            refine RW.soft Wd.a (v := .bool true) (by exact E.pickT (AF_ev rfl (up rfl (up rfl (Eq.trans tp (congrArg Value.bool hw18))))) rfl) ?_
            refine RW.soft Wd.a (v := .bool true) (by exact E.move (AF_ev rfl tp)) ?_
            refine RW.pass (by exact Wd.no (x := 66) (b := true) rfl (AF_ev rfl tp) rfl) ?_
            refine RW.pass (by exact Wd.no (x := 66) (b := true) rfl (AF_ev rfl (up rfl tp)) rfl) ?_
            refine RW.soft Wd.a (v := .bool true) (by exact E.pickT (AF_ev rfl (up rfl (up rfl tp))) rfl) ?_
            refine RW.soft Wd.a (v := .bool true) (by exact E.move (AF_ev rfl tp)) ?_
            refine RW.pass (by exact Wd.no (x := 70) (b := true) rfl (AF_ev rfl tp) rfl) ?_
            refine RW.pass (by exact Wd.no (x := 70) (b := true) rfl (AF_ev rfl (up rfl tp)) rfl) ?_
            refine RW.pass (by exact Wd.no (x := 70) (b := true) rfl (AF_ev rfl (up rfl (up rfl tp))) rfl) ?_
            refine RW.pass (by exact Wd.no (x := 70) (b := true) rfl (AF_ev rfl (up rfl (up rfl (up rfl tp)))) rfl) ?_
            refine RW.pass (by exact Wd.no (x := 70) (b := true) rfl (AF_ev rfl (up rfl (up rfl (up rfl (up rfl tp))))) rfl) ?_
            refine RW.pass (by exact Wd.no (x := 70) (b := true) rfl (AF_ev rfl (up rfl (up rfl (up rfl (up rfl (up rfl tp)))))) rfl) ?_
            refine RW.soft Wd.a (v := .bool true) (by exact E.pickT (AF_ev rfl (up rfl (up rfl (up rfl (up rfl (up rfl (up rfl tp))))))) rfl) ?_
            refine RW.nil ?_
            refine Th.n ?_
            have hst := hst.take (.there (.there (.there (.there .here))))
            have hst := hst.take (.there (.there (.there (.there .here))))
            have hst := hst.take (.there (.there (.there .here)))
            have hst := hst.take (.there (.there (.there .here)))
            have hst := (hst.take (.there (.there (.there (.there .here))))).drop
            have hst := (hst.take (.there (.there (.there (.there .here))))).drop
            exact ⟨true, hF, up rfl (up rfl (up rfl (up rfl (up rfl (up rfl (up rfl (up rfl (up rfl (up rfl (up rfl (up rfl (up rfl (up rfl (up rfl (up rfl (up rfl (up rfl (up rfl (up rfl (up rfl (up rfl hs1))))))))))))))))))))), up rfl (up rfl (up rfl (up rfl (up rfl (up rfl (up rfl (up rfl (up rfl (up rfl (up rfl (up rfl (up rfl (up rfl (up rfl (up rfl (up rfl (up rfl (up rfl (up rfl (up rfl (up rfl hs2))))))))))))))))))))), up rfl (up rfl (up rfl (up rfl (up rfl (up rfl (up rfl (up rfl (up rfl (up rfl (up rfl (up rfl (up rfl (up rfl (up rfl (up rfl (up rfl (up rfl (up rfl (up rfl (up rfl (up rfl hs6))))))))))))))))))))), up rfl (up rfl (up rfl (up rfl (up rfl (up rfl (up rfl (up rfl (up rfl (up rfl (up rfl (up rfl (up rfl (up rfl (up rfl (up rfl (up rfl (up rfl (up rfl (up rfl (up rfl (up rfl hs8))))))))))))))))))))), up rfl (up rfl (up rfl (up rfl (up rfl (up rfl (up rfl (up rfl (up rfl (up rfl (up rfl (up rfl (up rfl (up rfl (up rfl (up rfl (up rfl (up rfl (up rfl (up rfl (up rfl (up rfl hs14))))))))))))))))))))), up rfl (up rfl (up rfl (up rfl (up rfl (up rfl (up rfl (up rfl (up rfl (up rfl (up rfl (up rfl (up rfl (up rfl (up rfl (up rfl (up rfl (up rfl (up rfl (up rfl (up rfl (up rfl hs15))))))))))))))))))))), tp, hst⟩
          · have hF := cf hw18 hF
            have hw18_ := hw18
            try simp only [bne_eq_false_iff_eq] at hw18_
            refine RW.soft (by exact Wd.yes (x := 62) rfl (AF_ev rfl (Eq.trans tp (congrArg Value.bool hw18)))) (v := .int .i64 r13.1) (by exact E.move (AF_ev rfl (up rfl (up rfl (up rfl (up rfl (up rfl (up rfl (up rfl hs12))))))))) ?_
            refine RW.soft (by exact Wd.yes (x := 62) rfl (AF_ev rfl (up rfl (Eq.trans tp (congrArg Value.bool hw18))))) (v := .bool (r13.1 != 1)) (by exact E.neq (k := .i64) (a := r13.1) (b := 1) (AF_ev rfl tp) rfl) ?_
            refine RW.soft Wd.a (v := .bool (r13.1 != 1)) (by exact E.pickF (AF_ev rfl (up rfl (up rfl (Eq.trans tp (congrArg Value.bool hw18))))) (AF_ev rfl tp)) ?_
            refine RW.soft Wd.a (v := .bool (r13.1 != 1)) (by exact E.move (AF_ev rfl tp)) ?_
            refine Or.elim (Bool.eq_false_or_eq_true (r13.1 != 1)) (fun hw19 => ?_) (fun hw19 => ?_)
            · have hF := ct hw19 hF
              have hw19_ := hw19
              try simp only [bne_iff_ne, ne_eq] at hw19_
              refine RW.pass (by exact Wd.no (x := 66) (b := true) rfl (AF_ev rfl (Eq.trans tp (congrArg Value.bool hw19))) rfl) ?_
              refine RW.pass (by exact Wd.no (x := 66) (b := true) rfl (AF_ev rfl (up rfl (Eq.trans tp (congrArg Value.bool hw19)))) rfl) ?_
              refine RW.soft Wd.a (v := .bool true) (by exact E.pickT (AF_ev rfl (up rfl (up rfl (Eq.trans tp (congrArg Value.bool hw19))))) rfl) ?_
              refine RW.soft Wd.a (v := .bool true) (by exact E.move (AF_ev rfl tp)) ?_
              refine RW.pass (by exact Wd.no (x := 70) (b := true) rfl (AF_ev rfl tp) rfl) ?_
              refine RW.pass (by exact Wd.no (x := 70) (b := true) rfl (AF_ev rfl (up rfl tp)) rfl) ?_
              refine RW.pass (by exact Wd.no (x := 70) (b := true) rfl (AF_ev rfl (up rfl (up rfl tp))) rfl) ?_
              refine RW.pass (by exact Wd.no (x := 70) (b := true) rfl (AF_ev rfl (up rfl (up rfl (up rfl tp)))) rfl) ?_
              refine RW.pass (by exact Wd.no (x := 70) (b := true) rfl (AF_ev rfl (up rfl (up rfl (up rfl (up rfl tp))))) rfl) ?_
              refine RW.pass (by exact Wd.no (x := 70) (b := true) rfl (AF_ev rfl (up rfl (up rfl (up rfl (up rfl (up rfl tp)))))) rfl) ?_
              refine RW.soft Wd.a (v := .bool true) (by exact E.pickT (AF_ev rfl (up rfl (up rfl (up rfl (up rfl (up rfl (up rfl tp))))))) rfl) ?_
              refine RW.nil ?_
              refine Th.n ?_
              have hst := hst.take (.there (.there (.there (.there .here))))
              have hst := hst.take (.there (.there (.there (.there .here))))
              have hst := hst.take (.there (.there (.there .here)))
              have hst := hst.take (.there (.there (.there .here)))
              have hst := (hst.take (.there (.there (.there (.there .here))))).drop
              have hst := (hst.take (.there (.there (.there (.there .here))))).drop
              exact ⟨true, hF, up rfl (up rfl (up rfl (up rfl (up rfl (up rfl (up rfl (up rfl (up rfl (up rfl (up rfl (up rfl (up rfl (up rfl (up rfl (up rfl (up rfl (up rfl (up rfl (up rfl (up rfl (up rfl hs1))))))))))))))))))))), up rfl (up rfl (up rfl (up rfl (up rfl (up rfl (up rfl (up rfl (up rfl (up rfl (up rfl (up rfl (up rfl (up rfl (up rfl (up rfl (up rfl (up rfl (up rfl (up rfl (up rfl (up rfl hs2))))))))))))))))))))), up rfl (up rfl (up rfl (up rfl (up rfl (up rfl (up rfl (up rfl (up rfl (up rfl (up rfl (up rfl (up rfl (up rfl (up rfl (up rfl (up rfl (up rfl (up rfl (up rfl (up rfl (up rfl hs6))))))))))))))))))))), up rfl (up rfl (up rfl (up rfl (up rfl (up rfl (up rfl (up rfl (up rfl (up rfl (up rfl (up rfl (up rfl (up rfl (up rfl (up rfl (up rfl (up rfl (up rfl (up rfl (up rfl (up rfl hs8))))))))))))))))))))), up rfl (up rfl (up rfl (up rfl (up rfl (up rfl (up rfl (up rfl (up rfl (up rfl (up rfl (up rfl (up rfl (up rfl (up rfl (up rfl (up rfl (up rfl (up rfl (up rfl (up rfl (up rfl hs14))))))))))))))))))))), up rfl (up rfl (up rfl (up rfl (up rfl (up rfl (up rfl (up rfl (up rfl (up rfl (up rfl (up rfl (up rfl (up rfl (up rfl (up rfl (up rfl (up rfl (up rfl (up rfl (up rfl (up rfl hs15))))))))))))))))))))), tp, hst⟩
            · have hF := cf hw19 hF
              have hw19_ := hw19
              try simp only [bne_eq_false_iff_eq] at hw19_
              refine RW.soft (by exact Wd.yes (x := 66) rfl (AF_ev rfl (Eq.trans tp (congrArg Value.bool hw19)))) (v := .int .i64 r13.2.1) (by exact E.move (AF_ev rfl (up rfl (up rfl (up rfl (up rfl (up rfl (up rfl (up rfl (up rfl (up rfl (up rfl (up rfl hs13))))))))))))) ?_
              refine RW.soft (by exact Wd.yes (x := 66) rfl (AF_ev rfl (up rfl (Eq.trans tp (congrArg Value.bool hw19))))) (v := .bool (r13.2.1 != 1)) (by exact E.neq (k := .i64) (a := r13.2.1) (b := 1) (AF_ev rfl tp) rfl) ?_
              refine RW.soft Wd.a (v := .bool (r13.2.1 != 1)) (by exact E.pickF (AF_ev rfl (up rfl (up rfl (Eq.trans tp (congrArg Value.bool hw19))))) (AF_ev rfl tp)) ?_
              refine RW.soft Wd.a (v := .bool (r13.2.1 != 1)) (by exact E.move (AF_ev rfl tp)) ?_
              refine Or.elim (Bool.eq_false_or_eq_true (r13.2.1 != 1)) (fun hw20 => ?_) (fun hw20 => ?_)
              · have hF := ct hw20 hF
                have hw20_ := hw20
                try simp only [bne_iff_ne, ne_eq] at hw20_
                refine RW.pass (by exact Wd.no (x := 70) (b := true) rfl (AF_ev rfl (Eq.trans tp (congrArg Value.bool hw20))) rfl) ?_
                refine RW.pass (by exact Wd.no (x := 70) (b := true) rfl (AF_ev rfl (up rfl (Eq.trans tp (congrArg Value.bool hw20)))) rfl) ?_
                refine RW.pass (by exact Wd.no (x := 70) (b := true) rfl (AF_ev rfl (up rfl (up rfl (Eq.trans tp (congrArg Value.bool hw20))))) rfl) ?_
                refine RW.pass (by exact Wd.no (x := 70) (b := true) rfl (AF_ev rfl (up rfl (up rfl (up rfl (Eq.trans tp (congrArg Value.bool hw20)))))) rfl) ?_
                refine RW.pass (by exact Wd.no (x := 70) (b := true) rfl (AF_ev rfl (up rfl (up rfl (up rfl (up rfl (Eq.trans tp (congrArg Value.bool hw20))))))) rfl) ?_
                refine RW.pass (by exact Wd.no (x := 70) (b := true) rfl (AF_ev rfl (up rfl (up rfl (up rfl (up rfl (up rfl (Eq.trans tp (congrArg Value.bool hw20)))))))) rfl) ?_
                refine RW.soft Wd.a (v := .bool true) (by exact E.pickT (AF_ev rfl (up rfl (up rfl (up rfl (up rfl (up rfl (up rfl (Eq.trans tp (congrArg Value.bool hw20))))))))) rfl) ?_
                refine RW.nil ?_
                refine Th.n ?_
                have hst := hst.take (.there (.there (.there (.there .here))))
                have hst := hst.take (.there (.there (.there (.there .here))))
                have hst := hst.take (.there (.there (.there .here)))
                have hst := hst.take (.there (.there (.there .here)))
                have hst := (hst.take (.there (.there (.there (.there .here))))).drop
                have hst := (hst.take (.there (.there (.there (.there .here))))).drop
                exact ⟨true, hF, up rfl (up rfl (up rfl (up rfl (up rfl (up rfl (up rfl (up rfl (up rfl (up rfl (up rfl (up rfl (up rfl (up rfl (up rfl (up rfl (up rfl (up rfl (up rfl (up rfl (up rfl (up rfl hs1))))))))))))))))))))), up rfl (up rfl (up rfl (up rfl (up rfl (up rfl (up rfl (up rfl (up rfl (up rfl (up rfl (up rfl (up rfl (up rfl (up rfl (up rfl (up rfl (up rfl (up rfl (up rfl (up rfl (up rfl hs2))))))))))))))))))))), up rfl (up rfl (up rfl (up rfl (up rfl (up rfl (up rfl (up rfl (up rfl (up rfl (up rfl (up rfl (up rfl (up rfl (up rfl (up rfl (up rfl (up rfl (up rfl (up rfl (up rfl (up rfl hs6))))))))))))))))))))), up rfl (up rfl (up rfl (up rfl (up rfl (up rfl (up rfl (up rfl (up rfl (up rfl (up rfl (up rfl (up rfl (up rfl (up rfl (up rfl (up rfl (up rfl (up rfl (up rfl (up rfl (up rfl hs8))))))))))))))))))))), up rfl (up rfl (up rfl (up rfl (up rfl (up rfl (up rfl (up rfl (up rfl (up rfl (up rfl (up rfl (up rfl (up rfl (up rfl (up rfl (up rfl (up rfl (up rfl (up rfl (up rfl (up rfl hs14))))))))))))))))))))), up rfl (up rfl (up rfl (up rfl (up rfl (up rfl (up rfl (up rfl (up rfl (up rfl (up rfl (up rfl (up rfl (up rfl (up rfl (up rfl (up rfl (up rfl (up rfl (up rfl (up rfl (up rfl hs15))))))))))))))))))))), tp, hst⟩
              · have hF := cf hw20 hF
                have hw20_ := hw20
                try simp only [bne_eq_false_iff_eq] at hw20_
                refine RW.soft (by exact Wd.yes (x := 70) rfl (AF_ev rfl (Eq.trans tp (congrArg Value.bool hw20)))) (v := .slice Xq14_3 r13.2.2.2.1.length cq14_3) (by exact E.move (AF_ev rfl (up rfl (up rfl (up rfl (up rfl (up rfl (up rfl (up rfl (up rfl (up rfl (up rfl (up rfl (up rfl (up rfl (up rfl (up rfl hs15))))))))))))))))) ?_
                refine RW.soft (by exact Wd.yes (x := 70) rfl (AF_ev rfl (up rfl (Eq.trans tp (congrArg Value.bool hw20))))) (v := .int .i64 ((r13.2.2.2.1.length : Nat) : Int)) (by exact E.lenS (p := Xq14_3) (l := r13.2.2.2.1.length) (c := cq14_3) Try.underlying25 (AF_ev rfl tp)) ?_
                refine RW.soft (by exact Wd.yes (x := 70) rfl (AF_ev rfl (up rfl (up rfl (Eq.trans tp (congrArg Value.bool hw20)))))) (v := .slice X_o o.length c_o) (by exact E.move (AF_ev rfl (up rfl (up rfl (up rfl (up rfl (up rfl (up rfl (up rfl (up rfl (up rfl (up rfl (up rfl (up rfl (up rfl (up rfl (up rfl (up rfl (up rfl hs1))))))))))))))))))) ?_
                refine RW.soft (by exact Wd.yes (x := 70) rfl (AF_ev rfl (up rfl (up rfl (up rfl (Eq.trans tp (congrArg Value.bool hw20))))))) (v := .int .i64 ((o.length : Nat) : Int)) (by exact E.lenS (p := X_o) (l := o.length) (c := c_o) Try.underlying25 (AF_ev rfl tp)) ?_
                refine RW.soft (by exact Wd.yes (x := 70) rfl (AF_ev rfl (up rfl (up rfl (up rfl (up rfl (Eq.trans tp (congrArg Value.bool hw20)))))))) (v := .int .i64 (((o.length : Nat) : Int) + 16)) (by exact E.add (k := .i64) (a := ((o.length : Nat) : Int)) (b := 16) (AF_ev rfl tp) rfl (show IntKind.i64.wrap (((o.length : Nat) : Int) + 16) = ((o.length : Nat) : Int) + 16 from (by rw [IntWalk.i64_in _ (by omega)]))) ?_
                refine RW.soft (by exact Wd.yes (x := 70) rfl (AF_ev rfl (up rfl (up rfl (up rfl (up rfl (up rfl (Eq.trans tp (congrArg Value.bool hw20))))))))) (v := .bool (((r13.2.2.2.1.length : Nat) : Int) != (((o.length : Nat) : Int) + 16))) (by exact E.neq (k := .i64) (a := ((r13.2.2.2.1.length : Nat) : Int)) (b := ((o.length : Nat) : Int) + 16) (AF_ev rfl (up rfl (up rfl (up rfl tp)))) (AF_ev rfl tp)) ?_
                refine RW.soft Wd.a (v := .bool (((r13.2.2.2.1.length : Nat) : Int) != (((o.length : Nat) : Int) + 16))) (by exact E.pickF (AF_ev rfl (up rfl (up rfl (up rfl (up rfl (up rfl (up rfl (Eq.trans tp (congrArg Value.bool hw20))))))))) (AF_ev rfl tp)) ?_
                refine RW.nil ?_
                refine Th.n ?_
                have hst := hst.take (.there (.there (.there (.there .here))))
                have hst := hst.take (.there (.there (.there (.there .here))))
                have hst := hst.take (.there (.there (.there .here)))
                have hst := hst.take (.there (.there (.there .here)))
                have hst := (hst.take (.there (.there (.there (.there .here))))).drop
                have hst := (hst.take (.there (.there (.there (.there .here))))).drop
                exact ⟨(((r13.2.2.2.1.length : Nat) : Int) != (((o.length : Nat) : Int) + 16)), hF, up rfl (up rfl (up rfl (up rfl (up rfl (up rfl (up rfl (up rfl (up rfl (up rfl (up rfl (up rfl (up rfl (up rfl (up rfl (up rfl (up rfl (up rfl (up rfl (up rfl (up rfl (up rfl hs1))))))))))))))))))))), up rfl (up rfl (up rfl (up rfl (up rfl (up rfl (up rfl (up rfl (up rfl (up rfl (up rfl (up rfl (up rfl (up rfl (up rfl (up rfl (up rfl (up rfl (up rfl (up rfl (up rfl (up rfl hs2))))))))))))))))))))), up rfl (up rfl (up rfl (up rfl (up rfl (up rfl (up rfl (up rfl (up rfl (up rfl (up rfl (up rfl (up rfl (up rfl (up rfl (up rfl (up rfl (up rfl (up rfl (up rfl (up rfl (up rfl hs6))))))))))))))))))))), up rfl (up rfl (up rfl (up rfl (up rfl (up rfl (up rfl (up rfl (up rfl (up rfl (up rfl (up rfl (up rfl (up rfl (up rfl (up rfl (up rfl (up rfl (up rfl (up rfl (up rfl (up rfl hs8))))))))))))))))))))), up rfl (up rfl (up rfl (up rfl (up rfl (up rfl (up rfl (up rfl (up rfl (up rfl (up rfl (up rfl (up rfl (up rfl (up rfl (up rfl (up rfl (up rfl (up rfl (up rfl (up rfl (up rfl hs14))))))))))))))))))))), up rfl (up rfl (up rfl (up rfl (up rfl (up rfl (up rfl (up rfl (up rfl (up rfl (up rfl (up rfl (up rfl (up rfl (up rfl (up rfl (up rfl (up rfl (up rfl (up rfl (up rfl (up rfl hs15))))))))))))))))))))), tp, hst⟩
      rintro τ w ⟨j16, hF, hs1, hs2, hs6, hs8, hs14, hs15, hs77, hst⟩
      unfold EnvTurned_j2 at hF
      refine CW.cond (AF_ev rfl hs77) (fun hc21 => ?_) (fun hc21 => ?_)
      · have hF := ct hc21 hF
        refine CW.seq ?_
        refine CW.region ?_
        refine RW.soft Wd.a (v := .bool false) (by exact E.assign rfl) ?_
        refine RW.fin (fun τ => τ 1 = .slice X_o o.length c_o ∧ τ 2 = .int .i64 A' ∧ τ 6 = .bool false ∧ τ 8 = .pointer (some ⟨b4, 0, none⟩) ∧ τ 14 = .pointer (some ⟨b15, 0, none⟩) ∧ τ 15 = .slice Xq14_3 r13.2.2.2.1.length cq14_3 ∧ τ 77 = .bool true) ⟨up rfl hs1, up rfl hs2, tp, up rfl hs8, up rfl hs14, up rfl hs15, up rfl (Eq.trans hs77 (congrArg Value.bool hc21))⟩ ?_
        rintro τ ⟨hs1, hs2, hs6, hs8, hs14, hs15, hs77⟩
        refine CW.ret ?_
        refine Th.r ?_
        refine ret1 (v := .bool false) rfl (by exact (.tmp (AF_ev rfl hs6) .nil)) ?_
        have hst := hst.take (.there (.there (.there .here)))
        have hst := (hst.take (.there .here)).drop
        have hst := (hst.take (.there .here)).drop
        have hst := (hst.take (.there .here)).drop
        rw [somE hF]
        exact ⟨rfl, hst⟩
      · have hF := cf hc21 hF
        refine CW.skip ?_
        refine Th.n ?_
        refine CW.seq ?_
        refine CW.region ?_
        refine RW.soft Wd.a (v := .int .i64 A') (by exact E.move (AF_ev rfl hs2)) ?_
        obtain ⟨r22, h_r22, hF⟩ := bd hF
        refine RW.hard Wd.a ?_
        refine H.call0 Try.func19 nm19 rfl (map2 (AF_ev rfl tp) rfl) (Calls.mono (Kind14_C A' (by omega) 128 (by omega) r22 h_r22 hst) ?_)
        rintro _ w ⟨rfl, hr_q23_0, hst⟩
        refine ⟨_, rfl, ?_⟩
        show RW _ _ _ _ _ _ _
        refine RW.soft Wd.a (v := .int .i64 r22) (by exact E.assign (AF_ev rfl tp)) ?_
        refine RW.fin (fun τ => τ 1 = .slice X_o o.length c_o ∧ τ 2 = .int .i64 A' ∧ τ 6 = .bool false ∧ τ 8 = .pointer (some ⟨b4, 0, none⟩) ∧ τ 14 = .pointer (some ⟨b15, 0, none⟩) ∧ τ 15 = .slice Xq14_3 r13.2.2.2.1.length cq14_3 ∧ τ 17 = .int .i64 r22 ∧ τ 77 = .bool false) ⟨up rfl (up rfl (up rfl hs1)), up rfl (up rfl (up rfl hs2)), up rfl (up rfl (up rfl hs6)), up rfl (up rfl (up rfl hs8)), up rfl (up rfl (up rfl hs14)), up rfl (up rfl (up rfl hs15)), tp, up rfl (up rfl (up rfl (Eq.trans hs77 (congrArg Value.bool hc21))))⟩ ?_
        rintro τ ⟨hs1, hs2, hs6, hs8, hs14, hs15, hs17, hs77⟩
        refine CW.seq ?_
        refine CW.region ?_
        refine RW.hard Wd.a ?_
        refine H.buildSlice (e := 5) (cs := ((([] : List (BitVec 8)).map bu8)).toArray) (vs := #[]) (by simp) (fun _ => by kernel_rfl) hst fun b24 w hst => ?_
        refine RW.soft Wd.a (v := .slice Xq14_3 r13.2.2.2.1.length cq14_3) (by exact E.move (AF_ev rfl (up rfl hs15))) ?_
        have hst := hst.ownNew (n := 0) (cap := 0) (sz := 1) (xs := (([] : List (BitVec 8)).map bu8)) (by omega) (by simp [maxLen]) (by rw [List.size_toArray]; exact ((List.length_map _).trans (show ([] : List (BitVec 8)).length = 0 from rfl))) (by rw [List.take_of_length_le (by rw [show ((([] : List (BitVec 8)).map bu8)).length = 0 from ((List.length_map _).trans (show ([] : List (BitVec 8)).length = 0 from rfl))]; omega)])
        obtain ⟨hg25, hF⟩ := pl hF
        obtain ⟨s26, h_s26, hF⟩ := lp hF
        refine RW.hard Wd.a ?_
        refine H.append (m := r13.2.2.2.1.length) (news := (r13.2.2.2.1.map bu8)) (s0 := .slice (some ⟨b24, 0, none⟩) 0 0) (x0 := .slice Xq14_3 r13.2.2.2.1.length cq14_3) Try.underlying25 inf5 rfl (AF_ev rfl (up rfl tp)) (AF_ev rfl tp) hst .here (Tel.src (hst.take (.there (.there .here)))) (ones_map (fun _ => rfl)) (by omega) (by simp only [maxLen]; omega) ?_
        intro vX27 w _ hst
        have hl_s26 : s26.length = 0 + r13.2.2.2.1.length := by rw [h_s26, List.length_append]; first | done | rfl | omega | (simp; done) | (simp; omega)
        rw [show ((([] : List (BitVec 8)).map bu8) ++ (r13.2.2.2.1.map bu8)) = (s26.map bu8) from by rw [h_s26, List.map_append]; first | done | rfl, ← hl_s26] at hst
        obtain ⟨X27, c28, rfl, hcX27, hmX27, hlX27, hbX27⟩ := hst.shape
        clear hlX27
        refine RW.soft Wd.a (v := .slice X27 s26.length c28) (by exact E.assign (AF_ev rfl tp)) ?_
        refine RW.fin (fun τ => τ 1 = .slice X_o o.length c_o ∧ τ 2 = .int .i64 A' ∧ τ 6 = .bool false ∧ τ 8 = .pointer (some ⟨b4, 0, none⟩) ∧ τ 14 = .pointer (some ⟨b15, 0, none⟩) ∧ τ 15 = .slice Xq14_3 r13.2.2.2.1.length cq14_3 ∧ τ 17 = .int .i64 r22 ∧ τ 18 = .slice X27 s26.length c28 ∧ τ 77 = .bool false) ⟨up rfl (up rfl (up rfl (up rfl hs1))), up rfl (up rfl (up rfl (up rfl hs2))), up rfl (up rfl (up rfl (up rfl hs6))), up rfl (up rfl (up rfl (up rfl hs8))), up rfl (up rfl (up rfl (up rfl hs14))), up rfl (up rfl (up rfl (up rfl hs15))), up rfl (up rfl (up rfl (up rfl hs17))), tp, up rfl (up rfl (up rfl (up rfl hs77)))⟩ ?_
        rintro τ ⟨hs1, hs2, hs6, hs8, hs14, hs15, hs17, hs18, hs77⟩
        refine CW.seq ?_
        obtain ⟨z29, h_z29, hF⟩ := lp hF
        have hr_z29 : -9223372036854775808 ≤ z29 ∧ z29 ≤ 9223372036854775807 := by rw [h_z29]; exact (w64_rng _)
        obtain ⟨z30, h_z30, hF⟩ := lp hF
        have hr_z30 : -9223372036854775808 ≤ z30 ∧ z30 ≤ 9223372036854775807 := by rw [h_z30]; exact (w64_rng _)
        obtain ⟨hg31, hF⟩ := pl hF
        obtain ⟨b32, rfl⟩ := (St.ownAt (hst.take .here) (by omega))
        have := tmod_rng r22 (b := 8) (by decide)
        obtain ⟨hg34, hF⟩ := pl hF
        obtain ⟨u35, h_u35, hF⟩ := lp hF
        obtain ⟨hg36, hF⟩ := pl hF
        obtain ⟨m37, h_m37, hF⟩ := lp hF
        have hl_m37 : m37.length = s26.length := by rw [h_m37, List.length_set]
        refine CW.regionE [15] (fun w => w.cell? ⟨b32, (z30).toNat, none⟩ = some (.int .u8 ((s26.getD ((z30).toNat) 0#8).toNat : Int))) mixed ?_
        have hst := hst.drew
        generalize w.drew = w at hst ⊢
        have hS : w.cell? ⟨b32, (z30).toNat, none⟩ = some (.int .u8 ((s26.getD ((z30).toNat) 0#8).toNat : Int)) := (hst.ocell .here (getF (f := bu8) (d := 0#8) (by omega)))
        refine RE.takeF 0 rfl (by kernel_rfl) Wd.a (v := .slice (some ⟨b32, 0, none⟩) s26.length c28) (fun w => by exact E.move (AF_ev rfl hs18)) ?_
        refine RE.takeF 1 rfl (by kernel_rfl) Wd.a (v := .slice (some ⟨b32, 0, none⟩) s26.length c28) (fun w => by exact E.move (AF_ev rfl (up rfl hs18))) ?_
        refine RE.takeF 2 rfl (by kernel_rfl) Wd.a (v := .int .i64 ((s26.length : Nat) : Int)) (fun w => by exact E.lenS (p := (some ⟨b32, 0, none⟩)) (l := s26.length) (c := c28) Try.underlying25 (AF_ev rfl tp)) ?_
        refine RE.takeF 3 rfl (by kernel_rfl) Wd.a (v := .int .i64 (((s26.length : Nat) : Int) - 16)) (fun w => by exact E.sub (k := .i64) (a := ((s26.length : Nat) : Int)) (b := 16) (AF_ev rfl tp) rfl (show IntKind.i64.wrap (((s26.length : Nat) : Int) - 16) = ((s26.length : Nat) : Int) - 16 from (by rw [IntWalk.i64_in _ (by omega)]))) ?_
        refine RE.takeF 4 rfl (by kernel_rfl) Wd.a (v := .int .i64 r22) (fun w => by exact E.move (AF_ev rfl (up rfl (up rfl (up rfl (up rfl hs17)))))) ?_
        refine RE.takeF 5 rfl (by kernel_rfl) Wd.a (v := .int .i64 (w64 (r22.tdiv 8))) (fun w => by exact E.quo (k := .i64) (a := r22) (b := 8) (AF_ev rfl tp) rfl (by omega) rfl) ?_
        refine RE.takeF 6 rfl (by kernel_rfl) Wd.a (v := .int .i64 z29) (fun w => by exact E.v (E.add (k := .i64) (a := ((s26.length : Nat) : Int) - 16) (b := w64 (r22.tdiv 8)) (AF_ev rfl (up rfl (up rfl tp))) (AF_ev rfl tp) rfl) (by first | (rw [h_z29]; done) | (rw [h_z29]; rfl))) ?_
        refine RE.takeF 7 rfl (by kernel_rfl) Wd.a (v := .slice (some ⟨b32, 0, none⟩) s26.length c28) (fun w => by exact E.move (AF_ev rfl (up rfl (up rfl (up rfl (up rfl (up rfl (up rfl (up rfl hs18))))))))) ?_
        refine RE.takeF 8 rfl (by kernel_rfl) Wd.a (v := .slice (some ⟨b32, 0, none⟩) s26.length c28) (fun w => by exact E.move (AF_ev rfl (up rfl (up rfl (up rfl (up rfl (up rfl (up rfl (up rfl (up rfl hs18)))))))))) ?_
        refine RE.takeF 9 rfl (by kernel_rfl) Wd.a (v := .int .i64 ((s26.length : Nat) : Int)) (fun w => by exact E.lenS (p := (some ⟨b32, 0, none⟩)) (l := s26.length) (c := c28) Try.underlying25 (AF_ev rfl tp)) ?_
        refine RE.takeF 10 rfl (by kernel_rfl) Wd.a (v := .int .i64 (((s26.length : Nat) : Int) - 16)) (fun w => by exact E.sub (k := .i64) (a := ((s26.length : Nat) : Int)) (b := 16) (AF_ev rfl tp) rfl (show IntKind.i64.wrap (((s26.length : Nat) : Int) - 16) = ((s26.length : Nat) : Int) - 16 from (by rw [IntWalk.i64_in _ (by omega)]))) ?_
        refine RE.takeF 11 rfl (by kernel_rfl) Wd.a (v := .int .i64 r22) (fun w => by exact E.move (AF_ev rfl (up rfl (up rfl (up rfl (up rfl (up rfl (up rfl (up rfl (up rfl (up rfl (up rfl (up rfl hs17))))))))))))) ?_
        refine RE.takeF 12 rfl (by kernel_rfl) Wd.a (v := .int .i64 (w64 (r22.tdiv 8))) (fun w => by exact E.quo (k := .i64) (a := r22) (b := 8) (AF_ev rfl tp) rfl (by omega) rfl) ?_
        refine RE.takeF 13 rfl (by kernel_rfl) Wd.a (v := .int .i64 z30) (fun w => by exact E.v (E.add (k := .i64) (a := ((s26.length : Nat) : Int) - 16) (b := w64 (r22.tdiv 8)) (AF_ev rfl (up rfl (up rfl tp))) (AF_ev rfl tp) rfl) (by first | (rw [h_z30]; done) | (rw [h_z30]; rfl))) ?_
        refine RE.takeF 14 rfl (by kernel_rfl) Wd.a (v := .pointer (some ⟨b32, (z30).toNat, none⟩)) (fun w => by exact E.indexAddr (b := b32) (o := 0) (l := s26.length) (c := c28) (i := z30) Try.underlying25 sz5 (AF_ev rfl (up rfl (up rfl (up rfl (up rfl (up rfl (up rfl tp))))))) (AF_ev rfl tp) (by omega) (by omega) (by omega)) ?_
        refine RE.take 15 rfl (by kernel_rfl) Wd.a (v := .int .u8 ((s26.getD ((z30).toNat) 0#8).toNat : Int)) (fun w hS => by exact E.load (a := ⟨b32, (z30).toNat, none⟩) Try.underlying5 rfl (AF_ev rfl tp) hS) hS ?_
        refine RE.takeF 16 rfl (by kernel_rfl) Wd.a (v := .int .i64 r22) (fun w => by exact E.move (AF_ev rfl (up rfl (up rfl (up rfl (up rfl (up rfl (up rfl (up rfl (up rfl (up rfl (up rfl (up rfl (up rfl (up rfl (up rfl (up rfl (up rfl hs17)))))))))))))))))) ?_
        refine RE.takeF 17 rfl (by kernel_rfl) Wd.a (v := .int .i64 (r22.tmod 8)) (fun w => by exact E.rem (k := .i64) (a := r22) (b := 8) (AF_ev rfl tp) rfl (by omega) rfl) ?_
        refine RE.takeF 18 rfl (by kernel_rfl) Wd.a (v := .int .u8 (((1#8) <<< ((r22.tmod 8).toNat)).toNat : Int)) (fun w => by exact E.ushl (a := 1#8) (j := (r22.tmod 8).toNat) UK.u8 rfl (AF_ev rfl tp) (by omega)) ?_
        refine RE.takeF 19 rfl (by kernel_rfl) Wd.a (v := .int .u8 ((u35).toNat : Int)) (fun w => by exact E.v (E.uxor (a := s26.getD ((z30).toNat) 0#8) (b := (1#8) <<< ((r22.tmod 8).toNat)) UK.u8 (AF_ev rfl (up rfl (up rfl (up rfl tp)))) (AF_ev rfl tp)) (by first | (rw [h_u35]; done) | (rw [h_u35]; rfl))) ?_
        refine RE.takeF 20 rfl (by kernel_rfl) Wd.a (v := .pointer (some ⟨b32, (z29).toNat, none⟩)) (fun w => by exact E.indexAddr (b := b32) (o := 0) (l := s26.length) (c := c28) (i := z29) Try.underlying25 sz5 (AF_ev rfl (up rfl (up rfl (up rfl (up rfl (up rfl (up rfl (up rfl (up rfl (up rfl (up rfl (up rfl (up rfl (up rfl (up rfl (up rfl (up rfl (up rfl (up rfl (up rfl tp)))))))))))))))))))) (AF_ev rfl (up rfl (up rfl (up rfl (up rfl (up rfl (up rfl (up rfl (up rfl (up rfl (up rfl (up rfl (up rfl (up rfl tp)))))))))))))) (by omega) (by omega) (by omega)) ?_
        refine RE.only 21 rfl (by kernel_rfl) Wd.a ?_
        refine H.storeOwnL (b := b32) (o := (z29).toNat) (k := s26.length) (c := c28) (m := 1) (v := .int .u8 ((u35).toNat : Int)) (ys := [bu8 u35]) (L' := (m37.map bu8)) (AF_ev rfl tp) (AF_ev rfl (up rfl tp)) hst .here (by omega) sz5 rfl rfl (ones1 rfl) (by rw [h_m37]; exact putF (by omega)) fun w hst => ?_
        refine ⟨fun h => Bool.noConfusion ((show needs _ _ _ = false by kernel_rfl).symm.trans h), ?_⟩
        refine RE.fin (by kernel_rfl) (fun τ => τ 1 = .slice X_o o.length c_o ∧ τ 2 = .int .i64 A' ∧ τ 6 = .bool false ∧ τ 8 = .pointer (some ⟨b4, 0, none⟩) ∧ τ 14 = .pointer (some ⟨b15, 0, none⟩) ∧ τ 15 = .slice Xq14_3 r13.2.2.2.1.length cq14_3 ∧ τ 17 = .int .i64 r22 ∧ τ 18 = .slice (some ⟨b32, 0, none⟩) s26.length c28 ∧ τ 77 = .bool false) ⟨u0 (up rfl (up rfl (up rfl (up rfl (up rfl (up rfl (up rfl (up rfl (up rfl (up rfl (up rfl (up rfl (up rfl (up rfl (up rfl (up rfl (up rfl (up rfl (up rfl (up rfl (up rfl hs1))))))))))))))))))))), u0 (up rfl (up rfl (up rfl (up rfl (up rfl (up rfl (up rfl (up rfl (up rfl (up rfl (up rfl (up rfl (up rfl (up rfl (up rfl (up rfl (up rfl (up rfl (up rfl (up rfl (up rfl hs2))))))))))))))))))))), u0 (up rfl (up rfl (up rfl (up rfl (up rfl (up rfl (up rfl (up rfl (up rfl (up rfl (up rfl (up rfl (up rfl (up rfl (up rfl (up rfl (up rfl (up rfl (up rfl (up rfl (up rfl hs6))))))))))))))))))))), u0 (up rfl (up rfl (up rfl (up rfl (up rfl (up rfl (up rfl (up rfl (up rfl (up rfl (up rfl (up rfl (up rfl (up rfl (up rfl (up rfl (up rfl (up rfl (up rfl (up rfl (up rfl hs8))))))))))))))))))))), u0 (up rfl (up rfl (up rfl (up rfl (up rfl (up rfl (up rfl (up rfl (up rfl (up rfl (up rfl (up rfl (up rfl (up rfl (up rfl (up rfl (up rfl (up rfl (up rfl (up rfl (up rfl hs14))))))))))))))))))))), u0 (up rfl (up rfl (up rfl (up rfl (up rfl (up rfl (up rfl (up rfl (up rfl (up rfl (up rfl (up rfl (up rfl (up rfl (up rfl (up rfl (up rfl (up rfl (up rfl (up rfl (up rfl hs15))))))))))))))))))))), u0 (up rfl (up rfl (up rfl (up rfl (up rfl (up rfl (up rfl (up rfl (up rfl (up rfl (up rfl (up rfl (up rfl (up rfl (up rfl (up rfl (up rfl (up rfl (up rfl (up rfl (up rfl hs17))))))))))))))))))))), u0 (up rfl (up rfl (up rfl (up rfl (up rfl (up rfl (up rfl (up rfl (up rfl (up rfl (up rfl (up rfl (up rfl (up rfl (up rfl (up rfl (up rfl (up rfl (up rfl (up rfl (up rfl hs18))))))))))))))))))))), u0 (up rfl (up rfl (up rfl (up rfl (up rfl (up rfl (up rfl (up rfl (up rfl (up rfl (up rfl (up rfl (up rfl (up rfl (up rfl (up rfl (up rfl (up rfl (up rfl (up rfl (up rfl hs77)))))))))))))))))))))⟩ ?_
        rintro τ ⟨hs1, hs2, hs6, hs8, hs14, hs15, hs17, hs18, hs77⟩
        refine CW.seq ?_
        refine CW.region ?_
        refine RW.soft Wd.a (v := .pointer (some ⟨b4, 0, none⟩)) (by exact E.move (AF_ev rfl hs8)) ?_
        refine RW.soft Wd.a (v := .agg ((r13.2.2.1.map bu8)).toArray) (by exact E.loadN (b := b15) (o := 0) (cs := (r13.2.2.1.map bu8)) Try.underlying24 rfl sz24 (AF_ev rfl (up rfl hs14)) ((List.length_map _).trans hl_q14_2) (St.cellsOf hst (.there .here) allF)) ?_
        refine RW.soft Wd.a (v := .slice (some ⟨b32, 0, none⟩) s26.length c28) (by exact E.move (AF_ev rfl (up rfl (up rfl hs18)))) ?_
        have hst := Own.relen hst (b := m37.length) (by omega)
        obtain ⟨r38, h_r38, hF⟩ := bd hF
        refine RW.hard Wd.a ?_
        refine H.call0 Try.func12 nm12 rfl (map4 rfl rfl (AF_ev rfl (up rfl tp)) (AF_ev rfl (slcN tp (b := m37.length) (by omega)))) (Calls.mono (Blob_C (A := SL.Own 5 1 (.slice (some ⟨b32, 0, none⟩) m37.length c28) m37.length (m37.map bu8)) 1 (by omega) 1 (by omega) r13.2.2.1 hl_q14_2 m37 (by first | omega | (simp; done)) (fun w H s => (Own.src s)) r38 h_r38 hst) ?_)
        rintro _ w ⟨Xq39_0, cq39_0, rfl, hm_q39_0, hst⟩
        refine ⟨_, rfl, ?_⟩
        show RW _ _ _ _ _ _ _
        obtain ⟨r40, h_r40, hF⟩ := bd hF
        have hst := hst.take (.there (.there (.there (.there .here))))
        refine RW.hard Wd.a ?_
        refine H.call0 Try.func20 nm20 rfl (map3 (AF_ev rfl (up rfl (up rfl (up rfl tp)))) (AF_ev rfl tp) rfl) (Calls.mono (Decrypt_C (A := SL.Own 5 1 (.slice Xq39_0 r38.length cq39_0) r38.length (r38.map bu8)) r11.2.2.2 r38 (by first | omega | (simp; done)) (fun w H s => (Own.src s)) ([] : List (BitVec 8)) (by first | omega | (simp; done)) (fun w H s => Src.nil) r40 h_r40 hst) ?_)
        rintro _ w ⟨Xq41_0, cq41_0, rfl, hm_q41_0, hr_q41_1, hst⟩
        refine ⟨_, rfl, ?_⟩
        show RW _ _ _ _ _ _ _
        refine RW.soft Wd.a (v := .tuple #[.slice Xq41_0 r40.1.length cq41_0, .int .i64 r40.2.1]) (by exact E.move (AF_ev rfl tp)) ?_
        refine RW.soft Wd.a (v := .slice Xq41_0 r40.1.length cq41_0) (by exact E.extract (vs := #[.slice Xq41_0 r40.1.length cq41_0, .int .i64 r40.2.1]) (AF_ev rfl tp) rfl) ?_
        refine RW.soft Wd.a (v := .int .i64 r40.2.1) (by exact E.extract (vs := #[.slice Xq41_0 r40.1.length cq41_0, .int .i64 r40.2.1]) (AF_ev rfl (up rfl tp)) rfl) ?_
        refine RW.soft Wd.a (v := .slice Xq41_0 r40.1.length cq41_0) (by exact E.assign (AF_ev rfl (up rfl tp))) ?_
        refine RW.soft Wd.a (v := .int .i64 r40.2.1) (by exact E.assign (AF_ev rfl (up rfl tp))) ?_
        refine RW.fin (fun τ => τ 1 = .slice X_o o.length c_o ∧ τ 2 = .int .i64 A' ∧ τ 6 = .bool false ∧ τ 8 = .pointer (some ⟨b4, 0, none⟩) ∧ τ 14 = .pointer (some ⟨b15, 0, none⟩) ∧ τ 15 = .slice Xq14_3 r13.2.2.2.1.length cq14_3 ∧ τ 17 = .int .i64 r22 ∧ τ 18 = .slice (some ⟨b32, 0, none⟩) m37.length c28 ∧ τ 20 = .int .i64 r40.2.1 ∧ τ 77 = .bool false) ⟨up rfl (up rfl (up rfl (up rfl (up rfl (up rfl (up rfl (up rfl (up rfl (up rfl hs1))))))))), up rfl (up rfl (up rfl (up rfl (up rfl (up rfl (up rfl (up rfl (up rfl (up rfl hs2))))))))), up rfl (up rfl (up rfl (up rfl (up rfl (up rfl (up rfl (up rfl (up rfl (up rfl hs6))))))))), up rfl (up rfl (up rfl (up rfl (up rfl (up rfl (up rfl (up rfl (up rfl (up rfl hs8))))))))), up rfl (up rfl (up rfl (up rfl (up rfl (up rfl (up rfl (up rfl (up rfl (up rfl hs14))))))))), up rfl (up rfl (up rfl (up rfl (up rfl (up rfl (up rfl (up rfl (up rfl (up rfl hs15))))))))), up rfl (up rfl (up rfl (up rfl (up rfl (up rfl (up rfl (up rfl (up rfl (up rfl hs17))))))))), up rfl (up rfl (up rfl (up rfl (up rfl (up rfl (up rfl (up rfl (up rfl (up rfl (slcN hs18 (b := m37.length) (by omega))))))))))), tp, up rfl (up rfl (up rfl (up rfl (up rfl (up rfl (up rfl (up rfl (up rfl (up rfl hs77)))))))))⟩ ?_
        rintro τ ⟨hs1, hs2, hs6, hs8, hs14, hs15, hs17, hs18, hs20, hs77⟩
        refine CW.seq ?_
        refine CW.region ?_
        refine RW.soft Wd.a (v := .pointer (some ⟨b4, 0, none⟩)) (by exact E.move (AF_ev rfl hs8)) ?_
        refine RW.soft Wd.a (v := .agg ((r13.2.2.1.map bu8)).toArray) (by exact E.loadN (b := b15) (o := 0) (cs := (r13.2.2.1.map bu8)) Try.underlying24 rfl sz24 (AF_ev rfl (up rfl hs14)) ((List.length_map _).trans hl_q14_2) (St.cellsOf hst (.there (.there (.there (.there .here)))) allF)) ?_
        refine RW.soft Wd.a (v := .slice Xq14_3 r13.2.2.2.1.length cq14_3) (by exact E.move (AF_ev rfl (up rfl (up rfl hs15)))) ?_
        obtain ⟨r42, h_r42, hF⟩ := bd hF
        have hst := hst.take (.there (.there (.there (.there (.there .here)))))
        refine RW.hard Wd.a ?_
        refine H.call0 Try.func12 nm12 rfl (map4 rfl rfl (AF_ev rfl (up rfl tp)) (AF_ev rfl tp)) (Calls.mono (Blob_C (A := Tel (.slice Xq14_3 r13.2.2.2.1.length cq14_3) r13.2.2.2.1) 1 (by omega) 2 (by omega) r13.2.2.1 hl_q14_2 r13.2.2.2.1 (by first | omega | (simp; done)) (fun w H s => (Tel.src s)) r42 h_r42 hst) ?_)
        rintro _ w ⟨Xq43_0, cq43_0, rfl, hm_q43_0, hst⟩
        refine ⟨_, rfl, ?_⟩
        show RW _ _ _ _ _ _ _
        obtain ⟨r44, h_r44, hF⟩ := bd hF
        have hst := hst.take (.there (.there (.there .here)))
        refine RW.hard Wd.a ?_
        refine H.call0 Try.func20 nm20 rfl (map3 (AF_ev rfl (up rfl (up rfl (up rfl tp)))) (AF_ev rfl tp) rfl) (Calls.mono (Decrypt_C (A := SL.Own 5 1 (.slice Xq43_0 r42.length cq43_0) r42.length (r42.map bu8)) r40.2.2 r42 (by first | omega | (simp; done)) (fun w H s => (Own.src s)) ([] : List (BitVec 8)) (by first | omega | (simp; done)) (fun w H s => Src.nil) r44 h_r44 hst) ?_)
        rintro _ w ⟨Xq45_0, cq45_0, rfl, hm_q45_0, hr_q45_1, hst⟩
        refine ⟨_, rfl, ?_⟩
        show RW _ _ _ _ _ _ _
        refine RW.soft Wd.a (v := .tuple #[.slice Xq45_0 r44.1.length cq45_0, .int .i64 r44.2.1]) (by exact E.move (AF_ev rfl tp)) ?_
        refine RW.soft Wd.a (v := .slice Xq45_0 r44.1.length cq45_0) (by exact E.extract (vs := #[.slice Xq45_0 r44.1.length cq45_0, .int .i64 r44.2.1]) (AF_ev rfl tp) rfl) ?_
        refine RW.soft Wd.a (v := .int .i64 r44.2.1) (by exact E.extract (vs := #[.slice Xq45_0 r44.1.length cq45_0, .int .i64 r44.2.1]) (AF_ev rfl (up rfl tp)) rfl) ?_
        refine RW.soft Wd.a (v := .slice Xq45_0 r44.1.length cq45_0) (by exact E.assign (AF_ev rfl (up rfl tp))) ?_
        refine RW.soft Wd.a (v := .int .i64 r44.2.1) (by exact E.assign (AF_ev rfl (up rfl tp))) ?_
        refine RW.fin (fun τ => τ 1 = .slice X_o o.length c_o ∧ τ 2 = .int .i64 A' ∧ τ 6 = .bool false ∧ τ 8 = .pointer (some ⟨b4, 0, none⟩) ∧ τ 14 = .pointer (some ⟨b15, 0, none⟩) ∧ τ 15 = .slice Xq14_3 r13.2.2.2.1.length cq14_3 ∧ τ 17 = .int .i64 r22 ∧ τ 18 = .slice (some ⟨b32, 0, none⟩) m37.length c28 ∧ τ 20 = .int .i64 r40.2.1 ∧ τ 22 = .int .i64 r44.2.1 ∧ τ 77 = .bool false) ⟨up rfl (up rfl (up rfl (up rfl (up rfl (up rfl (up rfl (up rfl (up rfl (up rfl hs1))))))))), up rfl (up rfl (up rfl (up rfl (up rfl (up rfl (up rfl (up rfl (up rfl (up rfl hs2))))))))), up rfl (up rfl (up rfl (up rfl (up rfl (up rfl (up rfl (up rfl (up rfl (up rfl hs6))))))))), up rfl (up rfl (up rfl (up rfl (up rfl (up rfl (up rfl (up rfl (up rfl (up rfl hs8))))))))), up rfl (up rfl (up rfl (up rfl (up rfl (up rfl (up rfl (up rfl (up rfl (up rfl hs14))))))))), up rfl (up rfl (up rfl (up rfl (up rfl (up rfl (up rfl (up rfl (up rfl (up rfl hs15))))))))), up rfl (up rfl (up rfl (up rfl (up rfl (up rfl (up rfl (up rfl (up rfl (up rfl hs17))))))))), up rfl (up rfl (up rfl (up rfl (up rfl (up rfl (up rfl (up rfl (up rfl (up rfl hs18))))))))), up rfl (up rfl (up rfl (up rfl (up rfl (up rfl (up rfl (up rfl (up rfl (up rfl hs20))))))))), tp, up rfl (up rfl (up rfl (up rfl (up rfl (up rfl (up rfl (up rfl (up rfl (up rfl hs77)))))))))⟩ ?_
        rintro τ ⟨hs1, hs2, hs6, hs8, hs14, hs15, hs17, hs18, hs20, hs22, hs77⟩
        refine CW.seq ?_
        refine CW.region ?_
        refine RW.soft Wd.a (v := .pointer (some ⟨b4, 0, none⟩)) (by exact E.move (AF_ev rfl hs8)) ?_
        refine RW.soft Wd.a (v := .agg ((r13.2.2.1.map bu8)).toArray) (by exact E.loadN (b := b15) (o := 0) (cs := (r13.2.2.1.map bu8)) Try.underlying24 rfl sz24 (AF_ev rfl (up rfl hs14)) ((List.length_map _).trans hl_q14_2) (St.cellsOf hst (.there (.there (.there (.there (.there (.there (.there .here))))))) allF)) ?_
        refine RW.soft Wd.a (v := .slice Xq14_3 r13.2.2.2.1.length cq14_3) (by exact E.move (AF_ev rfl (up rfl (up rfl hs15)))) ?_
        obtain ⟨r46, h_r46, hF⟩ := bd hF
        have hst := hst.take (.there (.there (.there .here)))
        refine RW.hard Wd.a ?_
        refine H.call0 Try.func12 nm12 rfl (map4 rfl rfl (AF_ev rfl (up rfl tp)) (AF_ev rfl tp)) (Calls.mono (Blob_C (A := Tel (.slice Xq14_3 r13.2.2.2.1.length cq14_3) r13.2.2.2.1) 2 (by omega) 1 (by omega) r13.2.2.1 hl_q14_2 r13.2.2.2.1 (by first | omega | (simp; done)) (fun w H s => (Tel.src s)) r46 h_r46 hst) ?_)
        rintro _ w ⟨Xq47_0, cq47_0, rfl, hm_q47_0, hst⟩
        refine ⟨_, rfl, ?_⟩
        show RW _ _ _ _ _ _ _
        obtain ⟨r48, h_r48, hF⟩ := bd hF
        have hst := hst.take (.there (.there (.there .here)))
        refine RW.hard Wd.a ?_
        refine H.call0 Try.func20 nm20 rfl (map3 (AF_ev rfl (up rfl (up rfl (up rfl tp)))) (AF_ev rfl tp) rfl) (Calls.mono (Decrypt_C (A := SL.Own 5 1 (.slice Xq47_0 r46.length cq47_0) r46.length (r46.map bu8)) r44.2.2 r46 (by first | omega | (simp; done)) (fun w H s => (Own.src s)) ([] : List (BitVec 8)) (by first | omega | (simp; done)) (fun w H s => Src.nil) r48 h_r48 hst) ?_)
        rintro _ w ⟨Xq49_0, cq49_0, rfl, hm_q49_0, hr_q49_1, hst⟩
        refine ⟨_, rfl, ?_⟩
        show RW _ _ _ _ _ _ _
        refine RW.soft Wd.a (v := .tuple #[.slice Xq49_0 r48.1.length cq49_0, .int .i64 r48.2.1]) (by exact E.move (AF_ev rfl tp)) ?_
        refine RW.soft Wd.a (v := .slice Xq49_0 r48.1.length cq49_0) (by exact E.extract (vs := #[.slice Xq49_0 r48.1.length cq49_0, .int .i64 r48.2.1]) (AF_ev rfl tp) rfl) ?_
        refine RW.soft Wd.a (v := .int .i64 r48.2.1) (by exact E.extract (vs := #[.slice Xq49_0 r48.1.length cq49_0, .int .i64 r48.2.1]) (AF_ev rfl (up rfl tp)) rfl) ?_
        refine RW.soft Wd.a (v := .slice Xq49_0 r48.1.length cq49_0) (by exact E.assign (AF_ev rfl (up rfl tp))) ?_
        refine RW.soft Wd.a (v := .int .i64 r48.2.1) (by exact E.assign (AF_ev rfl (up rfl tp))) ?_
        refine RW.fin (fun τ => τ 1 = .slice X_o o.length c_o ∧ τ 2 = .int .i64 A' ∧ τ 6 = .bool false ∧ τ 8 = .pointer (some ⟨b4, 0, none⟩) ∧ τ 14 = .pointer (some ⟨b15, 0, none⟩) ∧ τ 15 = .slice Xq14_3 r13.2.2.2.1.length cq14_3 ∧ τ 17 = .int .i64 r22 ∧ τ 18 = .slice (some ⟨b32, 0, none⟩) m37.length c28 ∧ τ 20 = .int .i64 r40.2.1 ∧ τ 22 = .int .i64 r44.2.1 ∧ τ 24 = .int .i64 r48.2.1 ∧ τ 77 = .bool false) ⟨up rfl (up rfl (up rfl (up rfl (up rfl (up rfl (up rfl (up rfl (up rfl (up rfl hs1))))))))), up rfl (up rfl (up rfl (up rfl (up rfl (up rfl (up rfl (up rfl (up rfl (up rfl hs2))))))))), up rfl (up rfl (up rfl (up rfl (up rfl (up rfl (up rfl (up rfl (up rfl (up rfl hs6))))))))), up rfl (up rfl (up rfl (up rfl (up rfl (up rfl (up rfl (up rfl (up rfl (up rfl hs8))))))))), up rfl (up rfl (up rfl (up rfl (up rfl (up rfl (up rfl (up rfl (up rfl (up rfl hs14))))))))), up rfl (up rfl (up rfl (up rfl (up rfl (up rfl (up rfl (up rfl (up rfl (up rfl hs15))))))))), up rfl (up rfl (up rfl (up rfl (up rfl (up rfl (up rfl (up rfl (up rfl (up rfl hs17))))))))), up rfl (up rfl (up rfl (up rfl (up rfl (up rfl (up rfl (up rfl (up rfl (up rfl hs18))))))))), up rfl (up rfl (up rfl (up rfl (up rfl (up rfl (up rfl (up rfl (up rfl (up rfl hs20))))))))), up rfl (up rfl (up rfl (up rfl (up rfl (up rfl (up rfl (up rfl (up rfl (up rfl hs22))))))))), tp, up rfl (up rfl (up rfl (up rfl (up rfl (up rfl (up rfl (up rfl (up rfl (up rfl hs77)))))))))⟩ ?_
        rintro τ ⟨hs1, hs2, hs6, hs8, hs14, hs15, hs17, hs18, hs20, hs22, hs24, hs77⟩
        refine CW.seq ?_
        refine CW.region ?_
        refine RW.soft Wd.a (v := .pointer (some ⟨b4, 0, none⟩)) (by exact E.move (AF_ev rfl hs8)) ?_
        refine RW.soft Wd.a (v := .agg ((r13.2.2.1.map bu8)).toArray) (by exact E.loadN (b := b15) (o := 0) (cs := (r13.2.2.1.map bu8)) Try.underlying24 rfl sz24 (AF_ev rfl (up rfl hs14)) ((List.length_map _).trans hl_q14_2) (St.cellsOf hst (.there (.there (.there (.there (.there (.there (.there (.there (.there .here))))))))) allF)) ?_
        refine RW.soft Wd.a (v := .slice Xq14_3 r13.2.2.2.1.length cq14_3) (by exact E.move (AF_ev rfl (up rfl (up rfl hs15)))) ?_
        obtain ⟨r50, h_r50, hF⟩ := bd hF
        have hst := hst.take (.there (.there (.there .here)))
        refine RW.hard Wd.a ?_
        refine H.call0 Try.func12 nm12 rfl (map4 rfl rfl (AF_ev rfl (up rfl tp)) (AF_ev rfl tp)) (Calls.mono (Blob_C (A := Tel (.slice Xq14_3 r13.2.2.2.1.length cq14_3) r13.2.2.2.1) 1 (by omega) 1 (by omega) r13.2.2.1 hl_q14_2 r13.2.2.2.1 (by first | omega | (simp; done)) (fun w H s => (Tel.src s)) r50 h_r50 hst) ?_)
        rintro _ w ⟨Xq51_0, cq51_0, rfl, hm_q51_0, hst⟩
        refine ⟨_, rfl, ?_⟩
        show RW _ _ _ _ _ _ _
        obtain ⟨r52, h_r52, hF⟩ := bd hF
        have hst := hst.take (.there (.there (.there .here)))
        refine RW.hard Wd.a ?_
        refine H.call0 Try.func20 nm20 rfl (map3 (AF_ev rfl (up rfl (up rfl (up rfl tp)))) (AF_ev rfl tp) rfl) (Calls.mono (Decrypt_C (A := SL.Own 5 1 (.slice Xq51_0 r50.length cq51_0) r50.length (r50.map bu8)) r48.2.2 r50 (by first | omega | (simp; done)) (fun w H s => (Own.src s)) ([] : List (BitVec 8)) (by first | omega | (simp; done)) (fun w H s => Src.nil) r52 h_r52 hst) ?_)
        rintro _ w ⟨Xq53_0, cq53_0, rfl, hm_q53_0, hr_q53_1, hst⟩
        refine ⟨_, rfl, ?_⟩
        show RW _ _ _ _ _ _ _
        refine RW.soft Wd.a (v := .tuple #[.slice Xq53_0 r52.1.length cq53_0, .int .i64 r52.2.1]) (by exact E.move (AF_ev rfl tp)) ?_
        refine RW.soft Wd.a (v := .slice Xq53_0 r52.1.length cq53_0) (by exact E.extract (vs := #[.slice Xq53_0 r52.1.length cq53_0, .int .i64 r52.2.1]) (AF_ev rfl tp) rfl) ?_
        refine RW.soft Wd.a (v := .int .i64 r52.2.1) (by exact E.extract (vs := #[.slice Xq53_0 r52.1.length cq53_0, .int .i64 r52.2.1]) (AF_ev rfl (up rfl tp)) rfl) ?_
        refine RW.soft Wd.a (v := .slice Xq53_0 r52.1.length cq53_0) (by exact E.assign (AF_ev rfl (up rfl tp))) ?_
        refine RW.soft Wd.a (v := .int .i64 r52.2.1) (by exact E.assign (AF_ev rfl (up rfl tp))) ?_
        refine RW.fin (fun τ => τ 1 = .slice X_o o.length c_o ∧ τ 2 = .int .i64 A' ∧ τ 6 = .bool false ∧ τ 8 = .pointer (some ⟨b4, 0, none⟩) ∧ τ 14 = .pointer (some ⟨b15, 0, none⟩) ∧ τ 15 = .slice Xq14_3 r13.2.2.2.1.length cq14_3 ∧ τ 17 = .int .i64 r22 ∧ τ 18 = .slice (some ⟨b32, 0, none⟩) m37.length c28 ∧ τ 20 = .int .i64 r40.2.1 ∧ τ 22 = .int .i64 r44.2.1 ∧ τ 24 = .int .i64 r48.2.1 ∧ τ 25 = .slice Xq53_0 r52.1.length cq53_0 ∧ τ 26 = .int .i64 r52.2.1 ∧ τ 77 = .bool false) ⟨up rfl (up rfl (up rfl (up rfl (up rfl (up rfl (up rfl (up rfl (up rfl (up rfl hs1))))))))), up rfl (up rfl (up rfl (up rfl (up rfl (up rfl (up rfl (up rfl (up rfl (up rfl hs2))))))))), up rfl (up rfl (up rfl (up rfl (up rfl (up rfl (up rfl (up rfl (up rfl (up rfl hs6))))))))), up rfl (up rfl (up rfl (up rfl (up rfl (up rfl (up rfl (up rfl (up rfl (up rfl hs8))))))))), up rfl (up rfl (up rfl (up rfl (up rfl (up rfl (up rfl (up rfl (up rfl (up rfl hs14))))))))), up rfl (up rfl (up rfl (up rfl (up rfl (up rfl (up rfl (up rfl (up rfl (up rfl hs15))))))))), up rfl (up rfl (up rfl (up rfl (up rfl (up rfl (up rfl (up rfl (up rfl (up rfl hs17))))))))), up rfl (up rfl (up rfl (up rfl (up rfl (up rfl (up rfl (up rfl (up rfl (up rfl hs18))))))))), up rfl (up rfl (up rfl (up rfl (up rfl (up rfl (up rfl (up rfl (up rfl (up rfl hs20))))))))), up rfl (up rfl (up rfl (up rfl (up rfl (up rfl (up rfl (up rfl (up rfl (up rfl hs22))))))))), up rfl (up rfl (up rfl (up rfl (up rfl (up rfl (up rfl (up rfl (up rfl (up rfl hs24))))))))), up rfl tp, tp, up rfl (up rfl (up rfl (up rfl (up rfl (up rfl (up rfl (up rfl (up rfl (up rfl hs77)))))))))⟩ ?_
        rintro τ ⟨hs1, hs2, hs6, hs8, hs14, hs15, hs17, hs18, hs20, hs22, hs24, hs25, hs26, hs77⟩
        refine CW.seqJ (fun τ w => ∃ (j54 : Bool), EnvTurned_j3 j54 = some r ∧ τ 6 = .bool j54 ∧ St p w (A :: R)) ?_ ?_
        · skip
          refine CW.region ?_
          refine RW.soft Wd.a (v := .int .i64 r40.2.1) (by exact E.move (AF_ev rfl hs20)) ?_
          refine RW.soft Wd.a (v := .bool (r40.2.1 == 40)) (by exact E.eql (k := .i64) (a := r40.2.1) (b := 40) (AF_ev rfl tp) rfl) ?_
          refine RW.soft Wd.a (v := .bool (r40.2.1 == 40)) (by exact E.move (AF_ev rfl tp)) ?_
          refine Or.elim (Bool.eq_false_or_eq_true (r40.2.1 == 40)) (fun hw55 => ?_) (fun hw55 => ?_)
          · have hF := ct hw55 hF
            have hw55_ := hw55
            try simp only [beq_iff_eq] at hw55_
            refine RW.soft (by exact Wd.yes (x := 138) rfl (AF_ev rfl (Eq.trans tp (congrArg Value.bool hw55)))) (v := .int .i64 r44.2.1) (by exact E.move (AF_ev rfl (up rfl (up rfl (up rfl hs22))))) ?_
            refine RW.soft (by exact Wd.yes (x := 138) rfl (AF_ev rfl (up rfl (Eq.trans tp (congrArg Value.bool hw55))))) (v := .bool (r44.2.1 == 130)) (by exact E.eql (k := .i64) (a := r44.2.1) (b := 130) (AF_ev rfl tp) rfl) ?_
            refine RW.soft Wd.a (v := .bool (r44.2.1 == 130)) (by exact E.pickT (AF_ev rfl (up rfl (up rfl (Eq.trans tp (congrArg Value.bool hw55))))) (AF_ev rfl tp)) ?_
            refine RW.soft Wd.a (v := .bool (r44.2.1 == 130)) (by exact E.move (AF_ev rfl tp)) ?_
            refine Or.elim (Bool.eq_false_or_eq_true (r44.2.1 == 130)) (fun hw56 => ?_) (fun hw56 => ?_)
            · have hF := ct hw56 hF
              have hw56_ := hw56
              try simp only [beq_iff_eq] at hw56_
              refine RW.soft (by exact Wd.yes (x := 142) rfl (AF_ev rfl (Eq.trans tp (congrArg Value.bool hw56)))) (v := .int .i64 r48.2.1) (by exact E.move (AF_ev rfl (up rfl (up rfl (up rfl (up rfl (up rfl (up rfl (up rfl hs24))))))))) ?_
              refine RW.soft (by exact Wd.yes (x := 142) rfl (AF_ev rfl (up rfl (Eq.trans tp (congrArg Value.bool hw56))))) (v := .bool (r48.2.1 == 130)) (by exact E.eql (k := .i64) (a := r48.2.1) (b := 130) (AF_ev rfl tp) rfl) ?_
              refine RW.soft Wd.a (v := .bool (r48.2.1 == 130)) (by exact E.pickT (AF_ev rfl (up rfl (up rfl (Eq.trans tp (congrArg Value.bool hw56))))) (AF_ev rfl tp)) ?_
              refine RW.soft Wd.a (v := .bool (r48.2.1 == 130)) (by exact E.move (AF_ev rfl tp)) ?_
              refine Or.elim (Bool.eq_false_or_eq_true (r48.2.1 == 130)) (fun hw57 => ?_) (fun hw57 => ?_)
              · have hF := ct hw57 hF
                have hw57_ := hw57
                try simp only [beq_iff_eq] at hw57_
                refine RW.soft (by exact Wd.yes (x := 146) rfl (AF_ev rfl (Eq.trans tp (congrArg Value.bool hw57)))) (v := .int .i64 r52.2.1) (by exact E.move (AF_ev rfl (up rfl (up rfl (up rfl (up rfl (up rfl (up rfl (up rfl (up rfl (up rfl (up rfl (up rfl hs26))))))))))))) ?_
                refine RW.soft (by exact Wd.yes (x := 146) rfl (AF_ev rfl (up rfl (Eq.trans tp (congrArg Value.bool hw57))))) (v := .bool (r52.2.1 == 0)) (by exact E.eql (k := .i64) (a := r52.2.1) (b := 0) (AF_ev rfl tp) rfl) ?_
                refine RW.soft Wd.a (v := .bool (r52.2.1 == 0)) (by exact E.pickT (AF_ev rfl (up rfl (up rfl (Eq.trans tp (congrArg Value.bool hw57))))) (AF_ev rfl tp)) ?_
                refine RW.soft Wd.a (v := .bool (r52.2.1 == 0)) (by exact E.move (AF_ev rfl tp)) ?_
                refine Or.elim (Bool.eq_false_or_eq_true (r52.2.1 == 0)) (fun hw58 => ?_) (fun hw58 => ?_)
                · have hF := ct hw58 hF
                  have hw58_ := hw58
                  try simp only [beq_iff_eq] at hw58_
                  refine RW.soft (by exact Wd.yes (x := 150) rfl (AF_ev rfl (Eq.trans tp (congrArg Value.bool hw58)))) (v := .slice Xq53_0 r52.1.length cq53_0) (by exact E.move (AF_ev rfl (up rfl (up rfl (up rfl (up rfl (up rfl (up rfl (up rfl (up rfl (up rfl (up rfl (up rfl (up rfl (up rfl (up rfl (up rfl hs25))))))))))))))))) ?_
                  refine RW.soft (by exact Wd.yes (x := 150) rfl (AF_ev rfl (up rfl (Eq.trans tp (congrArg Value.bool hw58))))) (v := .string (sb r52.1)) (by exact E.strB (v := .slice Xq53_0 r52.1.length cq53_0) (m := r52.1.length) (l := r52.1) Try.underlying25 Try.underlying5 Try.underlying9 (AF_ev rfl tp) ((Own.src (hst.take .here)))) ?_
                  refine RW.soft (by exact Wd.yes (x := 150) rfl (AF_ev rfl (up rfl (up rfl (Eq.trans tp (congrArg Value.bool hw58)))))) (v := .slice X_o o.length c_o) (by exact E.move (AF_ev rfl (up rfl (up rfl (up rfl (up rfl (up rfl (up rfl (up rfl (up rfl (up rfl (up rfl (up rfl (up rfl (up rfl (up rfl (up rfl (up rfl (up rfl hs1))))))))))))))))))) ?_
                  refine RW.soft (by exact Wd.yes (x := 150) rfl (AF_ev rfl (up rfl (up rfl (up rfl (Eq.trans tp (congrArg Value.bool hw58))))))) (v := .string (sb o)) (by exact E.strB (v := .slice X_o o.length c_o) (m := o.length) (l := o) Try.underlying25 Try.underlying5 Try.underlying9 (AF_ev rfl tp) ((hS_o _ _ (hst.take (.there (.there (.there (.there (.there (.there (.there (.there (.there (.there (.there (.there .here)))))))))))))))) ?_
                  refine RW.soft (by exact Wd.yes (x := 150) rfl (AF_ev rfl (up rfl (up rfl (up rfl (up rfl (Eq.trans tp (congrArg Value.bool hw58)))))))) (v := .bool (r52.1 == o)) (by exact E.eqlSB (a := r52.1) (b := o) (AF_ev rfl (up rfl (up rfl tp))) (AF_ev rfl tp)) ?_
                  refine RW.soft Wd.a (v := .bool (r52.1 == o)) (by exact E.pickT (AF_ev rfl (up rfl (up rfl (up rfl (up rfl (up rfl (Eq.trans tp (congrArg Value.bool hw58)))))))) (AF_ev rfl tp)) ?_
                  refine RW.soft Wd.a (v := .bool (r52.1 == o)) (by exact E.assign (AF_ev rfl tp)) ?_
                  refine RW.nil ?_
                  refine Th.n ?_
                  have hst := hst.take (.there (.there (.there (.there (.there (.there (.there (.there (.there (.there (.there (.there .here))))))))))))
                  have hst := (hst.take (.there .here)).drop
                  have hst := (hst.take (.there .here)).drop
                  have hst := (hst.take (.there .here)).drop
                  have hst := (hst.take (.there .here)).drop
                  have hst := (hst.take (.there .here)).drop
                  have hst := (hst.take (.there .here)).drop
                  have hst := (hst.take (.there .here)).drop
                  have hst := (hst.take (.there .here)).drop
                  have hst := (hst.take (.there .here)).drop
                  have hst := (hst.take (.there .here)).drop
                  have hst := (hst.take (.there .here)).drop
                  have hst := (hst.take (.there .here)).drop
                  exact ⟨(r52.1 == o), hF, tp, hst⟩
                · have hF := cf hw58 hF
                  have hw58_ := hw58
                  try simp only [beq_eq_false_iff_ne, ne_eq] at hw58_
                  refine RW.pass (by exact Wd.no (x := 150) (b := false) rfl (AF_ev rfl (Eq.trans tp (congrArg Value.bool hw58))) rfl) ?_
                  refine RW.pass (by exact Wd.no (x := 150) (b := false) rfl (AF_ev rfl (up rfl (Eq.trans tp (congrArg Value.bool hw58)))) rfl) ?_
                  refine RW.pass (by exact Wd.no (x := 150) (b := false) rfl (AF_ev rfl (up rfl (up rfl (Eq.trans tp (congrArg Value.bool hw58))))) rfl) ?_
                  refine RW.pass (by exact Wd.no (x := 150) (b := false) rfl (AF_ev rfl (up rfl (up rfl (up rfl (Eq.trans tp (congrArg Value.bool hw58)))))) rfl) ?_
                  refine RW.pass (by exact Wd.no (x := 150) (b := false) rfl (AF_ev rfl (up rfl (up rfl (up rfl (up rfl (Eq.trans tp (congrArg Value.bool hw58))))))) rfl) ?_
                  refine RW.soft Wd.a (v := .bool false) (by exact E.pickF (AF_ev rfl (up rfl (up rfl (up rfl (up rfl (up rfl (Eq.trans tp (congrArg Value.bool hw58)))))))) rfl) ?_
                  refine RW.soft Wd.a (v := .bool false) (by exact E.assign (AF_ev rfl tp)) ?_
                  refine RW.nil ?_
                  refine Th.n ?_
                  have hst := hst.take (.there (.there (.there (.there (.there (.there (.there (.there (.there (.there (.there (.there .here))))))))))))
                  have hst := (hst.take (.there .here)).drop
                  have hst := (hst.take (.there .here)).drop
                  have hst := (hst.take (.there .here)).drop
                  have hst := (hst.take (.there .here)).drop
                  have hst := (hst.take (.there .here)).drop
                  have hst := (hst.take (.there .here)).drop
                  have hst := (hst.take (.there .here)).drop
                  have hst := (hst.take (.there .here)).drop
                  have hst := (hst.take (.there .here)).drop
                  have hst := (hst.take (.there .here)).drop
                  have hst := (hst.take (.there .here)).drop
                  have hst := (hst.take (.there .here)).drop
                  exact ⟨false, hF, tp, hst⟩
              · have hF := cf hw57 hF
                have hw57_ := hw57
                try simp only [beq_eq_false_iff_ne, ne_eq] at hw57_
                refine RW.pass (by exact Wd.no (x := 146) (b := false) rfl (AF_ev rfl (Eq.trans tp (congrArg Value.bool hw57))) rfl) ?_
                refine RW.pass (by exact Wd.no (x := 146) (b := false) rfl (AF_ev rfl (up rfl (Eq.trans tp (congrArg Value.bool hw57)))) rfl) ?_
                refine RW.soft Wd.a (v := .bool false) (by exact E.pickF (AF_ev rfl (up rfl (up rfl (Eq.trans tp (congrArg Value.bool hw57))))) rfl) ?_
                refine RW.soft Wd.a (v := .bool false) (by exact E.move (AF_ev rfl tp)) ?_
                refine RW.pass (by exact Wd.no (x := 150) (b := false) rfl (AF_ev rfl tp) rfl) ?_
                refine RW.pass (by exact Wd.no (x := 150) (b := false) rfl (AF_ev rfl (up rfl tp)) rfl) ?_
                refine RW.pass (by exact Wd.no (x := 150) (b := false) rfl (AF_ev rfl (up rfl (up rfl tp))) rfl) ?_
                refine RW.pass (by exact Wd.no (x := 150) (b := false) rfl (AF_ev rfl (up rfl (up rfl (up rfl tp)))) rfl) ?_
                refine RW.pass (by exact Wd.no (x := 150) (b := false) rfl (AF_ev rfl (up rfl (up rfl (up rfl (up rfl tp))))) rfl) ?_
                refine RW.soft Wd.a (v := .bool false) (by exact E.pickF (AF_ev rfl (up rfl (up rfl (up rfl (up rfl (up rfl tp)))))) rfl) ?_
                refine RW.soft Wd.a (v := .bool false) (by exact E.assign (AF_ev rfl tp)) ?_
                refine RW.nil ?_
                refine Th.n ?_
                have hst := hst.take (.there (.there (.there (.there (.there (.there (.there (.there (.there (.there (.there (.there .here))))))))))))
                have hst := (hst.take (.there .here)).drop
                have hst := (hst.take (.there .here)).drop
                have hst := (hst.take (.there .here)).drop
                have hst := (hst.take (.there .here)).drop
                have hst := (hst.take (.there .here)).drop
                have hst := (hst.take (.there .here)).drop
                have hst := (hst.take (.there .here)).drop
                have hst := (hst.take (.there .here)).drop
                have hst := (hst.take (.there .here)).drop
                have hst := (hst.take (.there .here)).drop
                have hst := (hst.take (.there .here)).drop
                have hst := (hst.take (.there .here)).drop
                exact ⟨false, hF, tp, hst⟩
            · have hF := cf hw56 hF
              have hw56_ := hw56
              try simp only [beq_eq_false_iff_ne, ne_eq] at hw56_
              refine RW.pass (by exact Wd.no (x := 142) (b := false) rfl (AF_ev rfl (Eq.trans tp (congrArg Value.bool hw56))) rfl) ?_
              refine RW.pass (by exact Wd.no (x := 142) (b := false) rfl (AF_ev rfl (up rfl (Eq.trans tp (congrArg Value.bool hw56)))) rfl) ?_
              refine RW.soft Wd.a (v := .bool false) (by exact E.pickF (AF_ev rfl (up rfl (up rfl (Eq.trans tp (congrArg Value.bool hw56))))) rfl) ?_
              refine RW.soft Wd.a (v := .bool false) (by exact E.move (AF_ev rfl tp)) ?_
              refine RW.pass (by exact Wd.no (x := 146) (b := false) rfl (AF_ev rfl tp) rfl) ?_
              refine RW.pass (by exact Wd.no (x := 146) (b := false) rfl (AF_ev rfl (up rfl tp)) rfl) ?_
              refine RW.soft Wd.a (v := .bool false) (by exact E.pickF (AF_ev rfl (up rfl (up rfl tp))) rfl) ?_
              refine RW.soft Wd.a (v := .bool false) (by exact E.move (AF_ev rfl tp)) ?_
              refine RW.pass (by exact Wd.no (x := 150) (b := false) rfl (AF_ev rfl tp) rfl) ?_
              refine RW.pass (by exact Wd.no (x := 150) (b := false) rfl (AF_ev rfl (up rfl tp)) rfl) ?_
              refine RW.pass (by exact Wd.no (x := 150) (b := false) rfl (AF_ev rfl (up rfl (up rfl tp))) rfl) ?_
              refine RW.pass (by exact Wd.no (x := 150) (b := false) rfl (AF_ev rfl (up rfl (up rfl (up rfl tp)))) rfl) ?_
              refine RW.pass (by exact Wd.no (x := 150) (b := false) rfl (AF_ev rfl (up rfl (up rfl (up rfl (up rfl tp))))) rfl) ?_
              refine RW.soft Wd.a (v := .bool false) (by exact E.pickF (AF_ev rfl (up rfl (up rfl (up rfl (up rfl (up rfl tp)))))) rfl) ?_
              refine RW.soft Wd.a (v := .bool false) (by exact E.assign (AF_ev rfl tp)) ?_
              refine RW.nil ?_
              refine Th.n ?_
              have hst := hst.take (.there (.there (.there (.there (.there (.there (.there (.there (.there (.there (.there (.there .here))))))))))))
              have hst := (hst.take (.there .here)).drop
              have hst := (hst.take (.there .here)).drop
              have hst := (hst.take (.there .here)).drop
              have hst := (hst.take (.there .here)).drop
              have hst := (hst.take (.there .here)).drop
              have hst := (hst.take (.there .here)).drop
              have hst := (hst.take (.there .here)).drop
              have hst := (hst.take (.there .here)).drop
              have hst := (hst.take (.there .here)).drop
              have hst := (hst.take (.there .here)).drop
              have hst := (hst.take (.there .here)).drop
              have hst := (hst.take (.there .here)).drop
              exact ⟨false, hF, tp, hst⟩
          · have hF := cf hw55 hF
            have hw55_ := hw55
            try simp only [beq_eq_false_iff_ne, ne_eq] at hw55_
            refine RW.pass (by exact Wd.no (x := 138) (b := false) rfl (AF_ev rfl (Eq.trans tp (congrArg Value.bool hw55))) rfl) ?_
            refine RW.pass (by exact Wd.no (x := 138) (b := false) rfl (AF_ev rfl (up rfl (Eq.trans tp (congrArg Value.bool hw55)))) rfl) ?_
            refine RW.soft Wd.a (v := .bool false) (by exact E.pickF (AF_ev rfl (up rfl (up rfl (Eq.trans tp (congrArg Value.bool hw55))))) rfl) ?_
            refine RW.soft Wd.a (v := .bool false) (by exact E.move (AF_ev rfl tp)) ?_
            refine RW.pass (by exact Wd.no (x := 142) (b := false) rfl (AF_ev rfl tp) rfl) ?_
            refine RW.pass (by exact Wd.no (x := 142) (b := false) rfl (AF_ev rfl (up rfl tp)) rfl) ?_
            refine RW.soft Wd.a (v := .bool false) (by exact E.pickF (AF_ev rfl (up rfl (up rfl tp))) rfl) ?_
            refine RW.soft Wd.a (v := .bool false) (by exact E.move (AF_ev rfl tp)) ?_
            refine RW.pass (by exact Wd.no (x := 146) (b := false) rfl (AF_ev rfl tp) rfl) ?_
            refine RW.pass (by exact Wd.no (x := 146) (b := false) rfl (AF_ev rfl (up rfl tp)) rfl) ?_
            refine RW.soft Wd.a (v := .bool false) (by exact E.pickF (AF_ev rfl (up rfl (up rfl tp))) rfl) ?_
            refine RW.soft Wd.a (v := .bool false) (by exact E.move (AF_ev rfl tp)) ?_
            refine RW.pass (by exact Wd.no (x := 150) (b := false) rfl (AF_ev rfl tp) rfl) ?_
            refine RW.pass (by exact Wd.no (x := 150) (b := false) rfl (AF_ev rfl (up rfl tp)) rfl) ?_
            refine RW.pass (by exact Wd.no (x := 150) (b := false) rfl (AF_ev rfl (up rfl (up rfl tp))) rfl) ?_
            refine RW.pass (by exact Wd.no (x := 150) (b := false) rfl (AF_ev rfl (up rfl (up rfl (up rfl tp)))) rfl) ?_
            refine RW.pass (by exact Wd.no (x := 150) (b := false) rfl (AF_ev rfl (up rfl (up rfl (up rfl (up rfl tp))))) rfl) ?_
            refine RW.soft Wd.a (v := .bool false) (by exact E.pickF (AF_ev rfl (up rfl (up rfl (up rfl (up rfl (up rfl tp)))))) rfl) ?_
            refine RW.soft Wd.a (v := .bool false) (by exact E.assign (AF_ev rfl tp)) ?_
            refine RW.nil ?_
            refine Th.n ?_
            have hst := hst.take (.there (.there (.there (.there (.there (.there (.there (.there (.there (.there (.there (.there .here))))))))))))
            have hst := (hst.take (.there .here)).drop
            have hst := (hst.take (.there .here)).drop
            have hst := (hst.take (.there .here)).drop
            have hst := (hst.take (.there .here)).drop
            have hst := (hst.take (.there .here)).drop
            have hst := (hst.take (.there .here)).drop
            have hst := (hst.take (.there .here)).drop
            have hst := (hst.take (.there .here)).drop
            have hst := (hst.take (.there .here)).drop
            have hst := (hst.take (.there .here)).drop
            have hst := (hst.take (.there .here)).drop
            have hst := (hst.take (.there .here)).drop
            exact ⟨false, hF, tp, hst⟩
        rintro τ w ⟨j54, hF, hs6, hst⟩
        unfold EnvTurned_j3 at hF
        refine CW.ret ?_
        refine ret1 (v := .bool j54) rfl (by exact (.tmp (AF_ev rfl hs6) .nil)) ?_
        rw [somE hF]
        exact ⟨rfl, hst⟩
end Go.Proofs.Ytjpjejldinpcnaa
