/- Functions that were walked through by a program: what each comes to, as a plain function, and the proof. -/
import Derived.Test.YtjpjejldinpcnaaX8
namespace Go.Proofs.Ytjpjejldinpcnaa
open Go.RowKit Go.SL Go.K13
attribute [local irreducible] Go.SL.RW Go.SL.CW Go.SL.RD Go.SL.Hd Go.SL.St
set_option linter.unusedVariables false
set_option linter.unusedSimpArgs false
set_option maxRecDepth 20000
set_option maxHeartbeats 4000000

theorem nm10 : (Try.f10.name == "runtime.NumGoroutine") = false := by kernel_rfl
theorem nm11 : (Try.f11.name == "runtime.NumGoroutine") = false := by kernel_rfl
theorem nm14 : (Try.f14.name == "runtime.NumGoroutine") = false := by kernel_rfl
theorem nm15 : (Try.f15.name == "runtime.NumGoroutine") = false := by kernel_rfl
theorem nm21 : (Try.f21.name == "runtime.NumGoroutine") = false := by kernel_rfl
theorem nm23 : (Try.f23.name == "runtime.NumGoroutine") = false := by kernel_rfl

def EnvBack_j6 (n_t : Nat) (t : List (BitVec 8)) (o : List (BitVec 8)) (A' : List (BitVec 8)) (r15 : Int × Int × RKB) (r19 : List (BitVec 8) × Int × Int × RKB) (s36 : Bool) (s37 : Int) (r57 : List (BitVec 8) × Int × RKB) (rc_EnvBack_l4 : Bool → Int → RKB → Option (Bool)) (j59 : Bool) (j60 : Bool) (j61 : Bool) (j62 : Bool) (j63 : Bool) (j64 : Bool) (j65 : Bool) (j66 : Bool) (j67 : Bool) (j68 : Bool) (j69 : Bool) : Option (Bool) :=
  bif j69 then
    some (false)
  else
    rc_EnvBack_l4 s36 (w64 (s37 + 1)) r57.2.2
def EnvBack_j7   (j79 : Bool) : Option (Bool) :=
  some (j79)
def EnvBack_j5 (n_t : Nat) (t : List (BitVec 8)) (o : List (BitVec 8)) (A' : List (BitVec 8)) (r15 : Int × Int × RKB) (r19 : List (BitVec 8) × Int × Int × RKB) (s36 : Bool) (s37 : Int) (ks38 : RKB) (rc_EnvBack_l4 : Bool → Int → RKB → Option (Bool)) (j41 : Bool) (j42 : Bool) (j43 : Bool) : Option (Bool) :=
  bif j43 then
    if 0 ≤ s37 ∧ (s37).toNat < n_t then
      lt_ (sl (((s37).toNat) * 32) 32 t) fun a47 =>
      lt_ (bRotate ks38 r15.1 a47) fun r48 =>
      if A'.length ≤ 1000000 then
        (Rewrap r48.2.2 r19.1 A').bind fun r51 =>
        if A'.length ≤ 1000000 then
          (Decrypt r51.2.2.2 r51.1 A').bind fun r54 =>
          if A'.length ≤ 1000000 then
            (Decrypt r54.2.2 r19.1 A').bind fun r57 =>
            bif r51.2.2.1 != 0 then
              EnvBack_j6 n_t t o A' r15 r19 s36 s37 r57 rc_EnvBack_l4 true true true true true true true true true true true
            else
              bif r51.2.1 != (w64 (s37 + 1)) then
                EnvBack_j6 n_t t o A' r15 r19 s36 s37 r57 rc_EnvBack_l4 false false true true true true true true true true true
              else
                bif r54.2.1 != 0 then
                  EnvBack_j6 n_t t o A' r15 r19 s36 s37 r57 rc_EnvBack_l4 false false false false true true true true true true true
                else
                  bif r57.2.1 != 0 then
                    EnvBack_j6 n_t t o A' r15 r19 s36 s37 r57 rc_EnvBack_l4 false false false false false false true true true true true
                  else
                    bif r54.1 != o then
                      EnvBack_j6 n_t t o A' r15 r19 s36 s37 r57 rc_EnvBack_l4 false false false false false false false false true true true
                    else
                      EnvBack_j6 n_t t o A' r15 r19 s36 s37 r57 rc_EnvBack_l4 false false false false false false false false false false (r57.1 != o)
          else none
        else none
      else none
    else none
  else
    if A'.length ≤ 1000000 then
      (Decrypt ks38 r19.1 A').bind fun r77 =>
      bif r77.2.1 == 0 then
        EnvBack_j7 (r77.1 == o)
      else
        EnvBack_j7 false
    else none
def EnvBack_l4 (n_t : Nat) (t : List (BitVec 8)) (o : List (BitVec 8)) (A' : List (BitVec 8)) (r15 : Int × Int × RKB) (r19 : List (BitVec 8) × Int × Int × RKB)  : Nat → Bool → Int → RKB → Option (Bool)
  | 0, _, _, _ => none
  | k40 + 1, s36, s37, ks38 =>
    bif decide (s37 < ((n_t : Nat) : Int)) then
      EnvBack_j5 n_t t o A' r15 r19 s36 s37 ks38 (fun (s36_ : Bool) (s37_ : Int) (ks38_ : RKB) => EnvBack_l4 n_t t o A' r15 r19 k40 s36_ s37_ ks38_) true true (decide (s37 < 4))
    else
      EnvBack_j5 n_t t o A' r15 r19 s36 s37 ks38 (fun (s36_ : Bool) (s37_ : Int) (ks38_ : RKB) => EnvBack_l4 n_t t o A' r15 r19 k40 s36_ s37_ ks38_) false false false
theorem EnvBack_l4_pos {n_t : Nat} {t : List (BitVec 8)} {o : List (BitVec 8)} {A' : List (BitVec 8)} {r15 : Int × Int × RKB} {r19 : List (BitVec 8) × Int × Int × RKB}  {fu_ : Nat} {s36 : Bool} {s37 : Int} {ks38 : RKB} {r : Bool} (h : EnvBack_l4 n_t t o A' r15 r19 fu_ s36 s37 ks38 = some r) : ∃ j, fu_ = j + 1 := by
  cases fu_ with
  | zero => cases (show (none : Option (Bool)) = some r from h)
  | succ j => exact ⟨j, rfl⟩
def EnvBack_j3 (n_t : Nat) (t : List (BitVec 8)) (o : List (BitVec 8)) (A' : List (BitVec 8)) (r15 : Int × Int × RKB) (r19 : List (BitVec 8) × Int × Int × RKB)  (j29 : Bool) : Option (Bool) :=
  bif j29 then
    some (false)
  else
    EnvBack_l4 n_t t o A' r15 r19 1099511627776 false 1 r19.2.2.2
def EnvBack_j2 (n_t : Nat) (t : List (BitVec 8)) (o : List (BitVec 8)) (A' : List (BitVec 8))  (j7 : Bool) : Option (Bool) :=
  bif j7 then
    some (true)
  else
    if 0 < n_t then
      lt_ (sl 0 32 t) fun a14 =>
      lt_ (bCreate ([] : RKB) a14) fun r15 =>
      if o.length ≤ 1000000 then
        if A'.length ≤ 1000000 then
          (Encrypt r15.2.2 r15.1 o A').bind fun r19 =>
          if 0 < n_t then
            lt_ (sl 0 32 t) fun a22 =>
            if A'.length ≤ 1000000 then
              if o.length ≤ 1000000 then
                (GSeal a22 (List.replicate 12 0#8) A' o).bind fun r25 =>
                (RBlob 1 1 (List.replicate 12 0#8) r25).bind fun r27 =>
                bif r15.2.1 != 0 then
                  EnvBack_j3 n_t t o A' r15 r19 true
                else
                  bif r19.2.2.1 != 0 then
                    EnvBack_j3 n_t t o A' r15 r19 true
                  else
                    bif r19.2.1 != 1 then
                      EnvBack_j3 n_t t o A' r15 r19 true
                    else
                      EnvBack_j3 n_t t o A' r15 r19 (r19.1 != r27)
              else none
            else none
          else none
        else none
      else none
    else none
def EnvBack_j1 (n_t : Nat) (t : List (BitVec 8)) (o : List (BitVec 8)) (A' : List (BitVec 8))  (j4 : Bool) : Option (Bool) :=
  bif j4 then
    some (false)
  else
    bif ((n_t : Nat) : Int) == 0 then
      EnvBack_j2 n_t t o A' true
    else
      bif decide (((o.length : Nat) : Int) > 64) then
        EnvBack_j2 n_t t o A' true
      else
        EnvBack_j2 n_t t o A' (decide (((A'.length : Nat) : Int) > 32))
def EnvBack (n_t : Nat) (t : List (BitVec 8)) (o : List (BitVec 8)) (A' : List (BitVec 8)) : Option (Bool) :=
  (Shown14).bind fun r1 =>
  bif !r1 then
    EnvBack_j1 n_t t o A' true
  else
    EnvBack_j1 n_t t o A' false
theorem EnvBack_C {p : Pers} {w : World} {R : List Assn} {A : Assn} {X_t : Option Addr} {c_t : Nat} (n_t : Nat) (t : List (BitVec 8)) (hn_t : n_t ≤ 9223372036854775807) (hl_t : t.length = n_t * 32) (hS_t : ∀ w H, St p w (A :: H) → SL.Src w 32 (.slice X_t n_t c_t) n_t (t.map bu8)) {X_o : Option Addr} {c_o : Nat} (o : List (BitVec 8)) (hm_o : o.length ≤ 9223372036854775807) (hS_o : ∀ w H, St p w (A :: H) → SL.Src w 1 (.slice X_o o.length c_o) o.length (o.map bu8)) {X_A' : Option Addr} {c_A' : Nat} (A' : List (BitVec 8)) (hm_A' : A'.length ≤ 9223372036854775807) (hS_A' : ∀ w H, St p w (A :: H) → SL.Src w 1 (.slice X_A' A'.length c_A') A'.length (A'.map bu8)) (r : Bool) (hF : EnvBack n_t t o A' = some r) (hst : St p w (A :: R)) :
    Calls Try.prog 6 #[.slice X_t n_t c_t, .slice X_o o.length c_o, .slice X_A' A'.length c_A'] w fun e w => e = .returned (.bool r) ∧ St p w (A :: R) := by
  unfold EnvBack at hF
  refine enter Try.func6 rfl (by simp) (n := 174) rfl fun τ hτ => ?_
  have hs0 : τ 0 = .slice X_t n_t c_t := hτ 0 (by simp)
  have hs1 : τ 1 = .slice X_o o.length c_o := hτ 1 (by simp)
  have hs2 : τ 2 = .slice X_A' A'.length c_A' := hτ 2 (by simp)
  clear hτ
  refine CW.seq ?_
  refine CW.region ?_
  refine RW.soft Wd.a (v := .bool false) (by exact E.assign rfl) ?_
  refine RW.fin (fun τ => τ 0 = .slice X_t n_t c_t ∧ τ 1 = .slice X_o o.length c_o ∧ τ 2 = .slice X_A' A'.length c_A' ∧ τ 6 = .bool false) ⟨up rfl hs0, up rfl hs1, up rfl hs2, tp⟩ ?_
  rintro τ ⟨hs0, hs1, hs2, hs6⟩
  refine CW.seq ?_
  refine CW.region ?_
  obtain ⟨r1, h_r1, hF⟩ := bd hF
  refine RW.hard Wd.a ?_
  refine H.call0 Try.func10 nm10 rfl map0 (Calls.mono (Shown14_C  r1 h_r1 hst) ?_)
  rintro _ w ⟨rfl, hst⟩
  refine ⟨_, rfl, ?_⟩
  show RW _ _ _ _ _ _ _
  refine RW.soft Wd.a (v := .bool r1) (by exact E.assign (AF_ev rfl tp)) ?_
  refine RW.fin (fun τ => τ 0 = .slice X_t n_t c_t ∧ τ 1 = .slice X_o o.length c_o ∧ τ 2 = .slice X_A' A'.length c_A' ∧ τ 6 = .bool false ∧ τ 7 = .bool r1) ⟨up rfl (up rfl hs0), up rfl (up rfl hs1), up rfl (up rfl hs2), up rfl (up rfl hs6), tp⟩ ?_
  rintro τ ⟨hs0, hs1, hs2, hs6, hs7⟩
  refine CW.seq ?_
  refine CW.region ?_
  refine RW.hard Wd.a ?_
  refine H.call0 Try.func16 nm16 rfl map0 (Calls.mono (New_B hst) ?_)
  rintro _ w ⟨b3, rfl, hst⟩
  refine ⟨_, rfl, ?_⟩
  show RW _ _ _ _ _ _ _
  refine RW.soft Wd.a (v := .pointer (some ⟨b3, 0, none⟩)) (by exact E.assign (AF_ev rfl tp)) ?_
  refine RW.fin (fun τ => τ 0 = .slice X_t n_t c_t ∧ τ 1 = .slice X_o o.length c_o ∧ τ 2 = .slice X_A' A'.length c_A' ∧ τ 6 = .bool false ∧ τ 7 = .bool r1 ∧ τ 8 = .pointer (some ⟨b3, 0, none⟩)) ⟨up rfl (up rfl hs0), up rfl (up rfl hs1), up rfl (up rfl hs2), up rfl (up rfl hs6), up rfl (up rfl hs7), tp⟩ ?_
  rintro τ ⟨hs0, hs1, hs2, hs6, hs7, hs8⟩
  refine CW.seq ?_
  refine CW.seqJ (fun τ w => ∃ (j4 : Bool), EnvBack_j1 n_t t o A' j4 = some r ∧ τ 0 = .slice X_t n_t c_t ∧ τ 1 = .slice X_o o.length c_o ∧ τ 2 = .slice X_A' A'.length c_A' ∧ τ 6 = .bool false ∧ τ 8 = .pointer (some ⟨b3, 0, none⟩) ∧ τ 32 = .bool j4 ∧ St p w (KeysB 103 b3 ([] : RKB) :: A :: R)) ?_ ?_
  · skip
    refine CW.region ?_
    refine RW.soft Wd.a (v := .bool r1) (by exact E.move (AF_ev rfl hs7)) ?_
    refine RW.soft Wd.a (v := .bool (!r1)) (by exact E.not (b := r1) (AF_ev rfl tp)) ?_
    refine RW.soft Wd.a (v := .bool (!r1)) (by exact E.move (AF_ev rfl tp)) ?_
    refine Or.elim (Bool.eq_false_or_eq_true (!r1)) (fun hw5 => ?_) (fun hw5 => ?_)
    · have hF := ct hw5 hF
      have hw5_ := hw5
      try simp only [Bool.not_eq_true', Bool.not_eq_false'] at hw5_
      refine RW.pass (by exact Wd.no (x := 29) (b := true) rfl (AF_ev rfl (Eq.trans tp (congrArg Value.bool hw5))) rfl) ?_
      refine RW.pass (by exact Wd.no (x := 29) (b := true) rfl (AF_ev rfl (up rfl (Eq.trans tp (congrArg Value.bool hw5)))) rfl) ?_
      refine RW.soft Wd.a (v := .bool true) (by exact E.pickT (AF_ev rfl (up rfl (up rfl (Eq.trans tp (congrArg Value.bool hw5))))) rfl) ?_
      refine RW.nil ?_
      refine Th.n ?_
      have hst := hst.take (.there .here)
      have hst := hst.take (.there .here)
      exact ⟨true, hF, up rfl (up rfl (up rfl (up rfl (up rfl (up rfl hs0))))), up rfl (up rfl (up rfl (up rfl (up rfl (up rfl hs1))))), up rfl (up rfl (up rfl (up rfl (up rfl (up rfl hs2))))), up rfl (up rfl (up rfl (up rfl (up rfl (up rfl hs6))))), up rfl (up rfl (up rfl (up rfl (up rfl (up rfl hs8))))), tp, hst⟩
    · have hF := cf hw5 hF
      have hw5_ := hw5
      try simp only [Bool.not_eq_true', Bool.not_eq_false'] at hw5_
      refine RW.soft (by exact Wd.yes (x := 29) rfl (AF_ev rfl (Eq.trans tp (congrArg Value.bool hw5)))) (v := .pointer (some ⟨b3, 0, none⟩)) (by exact E.move (AF_ev rfl (up rfl (up rfl (up rfl hs8))))) ?_
      refine RW.soft (by exact Wd.yes (x := 29) rfl (AF_ev rfl (up rfl (Eq.trans tp (congrArg Value.bool hw5))))) (v := .bool false) (by exact E.eqlP (p := (some ⟨b3, 0, none⟩)) Try.underlying35 (AF_ev rfl tp) rfl) ?_
      refine RW.soft Wd.a (v := .bool false) (by exact E.pickF (AF_ev rfl (up rfl (up rfl (Eq.trans tp (congrArg Value.bool hw5))))) (AF_ev rfl tp)) ?_
      refine RW.nil ?_
      refine Th.n ?_
      have hst := hst.take (.there .here)
      have hst := hst.take (.there .here)
      exact ⟨false, hF, up rfl (up rfl (up rfl (up rfl (up rfl (up rfl hs0))))), up rfl (up rfl (up rfl (up rfl (up rfl (up rfl hs1))))), up rfl (up rfl (up rfl (up rfl (up rfl (up rfl hs2))))), up rfl (up rfl (up rfl (up rfl (up rfl (up rfl hs6))))), up rfl (up rfl (up rfl (up rfl (up rfl (up rfl hs8))))), tp, hst⟩
  rintro τ w ⟨j4, hF, hs0, hs1, hs2, hs6, hs8, hs32, hst⟩
  unfold EnvBack_j1 at hF
  refine CW.cond (AF_ev rfl hs32) (fun hc6 => ?_) (fun hc6 => ?_)
  · have hF := ct hc6 hF
    refine CW.seq ?_
    refine CW.region ?_
    refine RW.soft Wd.a (v := .bool false) (by exact E.assign rfl) ?_
    refine RW.fin (fun τ => τ 0 = .slice X_t n_t c_t ∧ τ 1 = .slice X_o o.length c_o ∧ τ 2 = .slice X_A' A'.length c_A' ∧ τ 6 = .bool false ∧ τ 8 = .pointer (some ⟨b3, 0, none⟩) ∧ τ 32 = .bool true) ⟨up rfl hs0, up rfl hs1, up rfl hs2, tp, up rfl hs8, up rfl (Eq.trans hs32 (congrArg Value.bool hc6))⟩ ?_
    rintro τ ⟨hs0, hs1, hs2, hs6, hs8, hs32⟩
    refine CW.ret ?_
    refine Th.r ?_
    refine ret1 (v := .bool false) rfl (by exact (.tmp (AF_ev rfl hs6) .nil)) ?_
    have hst := hst.take (.there .here)
    have hst := (hst.take (.there .here)).drop
    rw [somE hF]
    exact ⟨rfl, hst⟩
  · have hF := cf hc6 hF
    refine CW.skip ?_
    refine Th.n ?_
    refine CW.seq ?_
    refine CW.seqJ (fun τ w => ∃ (j7 : Bool), EnvBack_j2 n_t t o A' j7 = some r ∧ τ 0 = .slice X_t n_t c_t ∧ τ 1 = .slice X_o o.length c_o ∧ τ 2 = .slice X_A' A'.length c_A' ∧ τ 6 = .bool false ∧ τ 8 = .pointer (some ⟨b3, 0, none⟩) ∧ τ 45 = .bool j7 ∧ St p w (KeysB 103 b3 ([] : RKB) :: A :: R)) ?_ ?_
    · skip
      refine CW.region ?_
      refine RW.soft Wd.a (v := .slice X_t n_t c_t) (by exact E.move (AF_ev rfl hs0)) ?_
      refine RW.soft Wd.a (v := .int .i64 ((n_t : Nat) : Int)) (by exact E.lenS (p := X_t) (l := n_t) (c := c_t) Try.underlying48 (AF_ev rfl tp)) ?_
      refine RW.soft Wd.a (v := .bool (((n_t : Nat) : Int) == 0)) (by exact E.eql (k := .i64) (a := ((n_t : Nat) : Int)) (b := 0) (AF_ev rfl tp) rfl) ?_
      refine RW.soft Wd.a (v := .bool (((n_t : Nat) : Int) == 0)) (by exact E.move (AF_ev rfl tp)) ?_
      refine Or.elim (Bool.eq_false_or_eq_true (((n_t : Nat) : Int) == 0)) (fun hw8 => ?_) (fun hw8 => ?_)
      · have hF := ct hw8 hF
        have hw8_ := hw8
        try simp only [beq_iff_eq] at hw8_
        refine RW.pass (by exact Wd.no (x := 36) (b := true) rfl (AF_ev rfl (Eq.trans tp (congrArg Value.bool hw8))) rfl) ?_
        refine RW.pass (by exact Wd.no (x := 36) (b := true) rfl (AF_ev rfl (up rfl (Eq.trans tp (congrArg Value.bool hw8)))) rfl) ?_
        refine RW.pass (by exact Wd.no (x := 36) (b := true) rfl (AF_ev rfl (up rfl (up rfl (Eq.trans tp (congrArg Value.bool hw8))))) rfl) ?_
        refine RW.soft Wd.a (v := .bool true) (by exact E.pickT (AF_ev rfl (up rfl (up rfl (up rfl (Eq.trans tp (congrArg Value.bool hw8)))))) rfl) ?_
        refine RW.soft Wd.a (v := .bool true) (by exact E.move (AF_ev rfl tp)) ?_
        refine RW.pass (by exact Wd.no (x := 41) (b := true) rfl (AF_ev rfl tp) rfl) ?_
        refine RW.pass (by exact Wd.no (x := 41) (b := true) rfl (AF_ev rfl (up rfl tp)) rfl) ?_
        refine RW.pass (by exact Wd.no (x := 41) (b := true) rfl (AF_ev rfl (up rfl (up rfl tp))) rfl) ?_
        refine RW.soft Wd.a (v := .bool true) (by exact E.pickT (AF_ev rfl (up rfl (up rfl (up rfl tp)))) rfl) ?_
        refine RW.nil ?_
        refine Th.n ?_
        have hst := hst.take (.there .here)
        have hst := hst.take (.there .here)
        exact ⟨true, hF, up rfl (up rfl (up rfl (up rfl (up rfl (up rfl (up rfl (up rfl (up rfl (up rfl (up rfl (up rfl (up rfl hs0)))))))))))), up rfl (up rfl (up rfl (up rfl (up rfl (up rfl (up rfl (up rfl (up rfl (up rfl (up rfl (up rfl (up rfl hs1)))))))))))), up rfl (up rfl (up rfl (up rfl (up rfl (up rfl (up rfl (up rfl (up rfl (up rfl (up rfl (up rfl (up rfl hs2)))))))))))), up rfl (up rfl (up rfl (up rfl (up rfl (up rfl (up rfl (up rfl (up rfl (up rfl (up rfl (up rfl (up rfl hs6)))))))))))), up rfl (up rfl (up rfl (up rfl (up rfl (up rfl (up rfl (up rfl (up rfl (up rfl (up rfl (up rfl (up rfl hs8)))))))))))), tp, hst⟩
      · have hF := cf hw8 hF
        have hw8_ := hw8
        try simp only [beq_eq_false_iff_ne, ne_eq] at hw8_
        refine RW.soft (by exact Wd.yes (x := 36) rfl (AF_ev rfl (Eq.trans tp (congrArg Value.bool hw8)))) (v := .slice X_o o.length c_o) (by exact E.move (AF_ev rfl (up rfl (up rfl (up rfl (up rfl hs1)))))) ?_
        refine RW.soft (by exact Wd.yes (x := 36) rfl (AF_ev rfl (up rfl (Eq.trans tp (congrArg Value.bool hw8))))) (v := .int .i64 ((o.length : Nat) : Int)) (by exact E.lenS (p := X_o) (l := o.length) (c := c_o) Try.underlying25 (AF_ev rfl tp)) ?_
        refine RW.soft (by exact Wd.yes (x := 36) rfl (AF_ev rfl (up rfl (up rfl (Eq.trans tp (congrArg Value.bool hw8)))))) (v := .bool (decide (((o.length : Nat) : Int) > 64))) (by exact E.gtr (k := .i64) (a := ((o.length : Nat) : Int)) (b := 64) (AF_ev rfl tp) rfl) ?_
        refine RW.soft Wd.a (v := .bool (decide (((o.length : Nat) : Int) > 64))) (by exact E.pickF (AF_ev rfl (up rfl (up rfl (up rfl (Eq.trans tp (congrArg Value.bool hw8)))))) (AF_ev rfl tp)) ?_
        refine RW.soft Wd.a (v := .bool (decide (((o.length : Nat) : Int) > 64))) (by exact E.move (AF_ev rfl tp)) ?_
        refine Or.elim (Bool.eq_false_or_eq_true (decide (((o.length : Nat) : Int) > 64))) (fun hw9 => ?_) (fun hw9 => ?_)
        · have hF := ct hw9 hF
          have hw9_ := hw9
          try simp only [decide_eq_true_eq, gt_iff_lt, ge_iff_le] at hw9_
          refine RW.pass (by exact Wd.no (x := 41) (b := true) rfl (AF_ev rfl (Eq.trans tp (congrArg Value.bool hw9))) rfl) ?_
          refine RW.pass (by exact Wd.no (x := 41) (b := true) rfl (AF_ev rfl (up rfl (Eq.trans tp (congrArg Value.bool hw9)))) rfl) ?_
          refine RW.pass (by exact Wd.no (x := 41) (b := true) rfl (AF_ev rfl (up rfl (up rfl (Eq.trans tp (congrArg Value.bool hw9))))) rfl) ?_
          refine RW.soft Wd.a (v := .bool true) (by exact E.pickT (AF_ev rfl (up rfl (up rfl (up rfl (Eq.trans tp (congrArg Value.bool hw9)))))) rfl) ?_
          refine RW.nil ?_
          refine Th.n ?_
          have hst := hst.take (.there .here)
          have hst := hst.take (.there .here)
          exact ⟨true, hF, up rfl (up rfl (up rfl (up rfl (up rfl (up rfl (up rfl (up rfl (up rfl (up rfl (up rfl (up rfl (up rfl hs0)))))))))))), up rfl (up rfl (up rfl (up rfl (up rfl (up rfl (up rfl (up rfl (up rfl (up rfl (up rfl (up rfl (up rfl hs1)))))))))))), up rfl (up rfl (up rfl (up rfl (up rfl (up rfl (up rfl (up rfl (up rfl (up rfl (up rfl (up rfl (up rfl hs2)))))))))))), up rfl (up rfl (up rfl (up rfl (up rfl (up rfl (up rfl (up rfl (up rfl (up rfl (up rfl (up rfl (up rfl hs6)))))))))))), up rfl (up rfl (up rfl (up rfl (up rfl (up rfl (up rfl (up rfl (up rfl (up rfl (up rfl (up rfl (up rfl hs8)))))))))))), tp, hst⟩
        · have hF := cf hw9 hF
          have hw9_ := hw9
          try simp only [decide_eq_false_iff_not, Int.not_lt, Int.not_le, gt_iff_lt, ge_iff_le] at hw9_
          refine RW.soft (by exact Wd.yes (x := 41) rfl (AF_ev rfl (Eq.trans tp (congrArg Value.bool hw9)))) (v := .slice X_A' A'.length c_A') (by exact E.move (AF_ev rfl (up rfl (up rfl (up rfl (up rfl (up rfl (up rfl (up rfl (up rfl (up rfl hs2))))))))))) ?_
          refine RW.soft (by exact Wd.yes (x := 41) rfl (AF_ev rfl (up rfl (Eq.trans tp (congrArg Value.bool hw9))))) (v := .int .i64 ((A'.length : Nat) : Int)) (by exact E.lenS (p := X_A') (l := A'.length) (c := c_A') Try.underlying25 (AF_ev rfl tp)) ?_
          refine RW.soft (by exact Wd.yes (x := 41) rfl (AF_ev rfl (up rfl (up rfl (Eq.trans tp (congrArg Value.bool hw9)))))) (v := .bool (decide (((A'.length : Nat) : Int) > 32))) (by exact E.gtr (k := .i64) (a := ((A'.length : Nat) : Int)) (b := 32) (AF_ev rfl tp) rfl) ?_
          refine RW.soft Wd.a (v := .bool (decide (((A'.length : Nat) : Int) > 32))) (by exact E.pickF (AF_ev rfl (up rfl (up rfl (up rfl (Eq.trans tp (congrArg Value.bool hw9)))))) (AF_ev rfl tp)) ?_
          refine RW.nil ?_
          refine Th.n ?_
          have hst := hst.take (.there .here)
          have hst := hst.take (.there .here)
          exact ⟨(decide (((A'.length : Nat) : Int) > 32)), hF, up rfl (up rfl (up rfl (up rfl (up rfl (up rfl (up rfl (up rfl (up rfl (up rfl (up rfl (up rfl (up rfl hs0)))))))))))), up rfl (up rfl (up rfl (up rfl (up rfl (up rfl (up rfl (up rfl (up rfl (up rfl (up rfl (up rfl (up rfl hs1)))))))))))), up rfl (up rfl (up rfl (up rfl (up rfl (up rfl (up rfl (up rfl (up rfl (up rfl (up rfl (up rfl (up rfl hs2)))))))))))), up rfl (up rfl (up rfl (up rfl (up rfl (up rfl (up rfl (up rfl (up rfl (up rfl (up rfl (up rfl (up rfl hs6)))))))))))), up rfl (up rfl (up rfl (up rfl (up rfl (up rfl (up rfl (up rfl (up rfl (up rfl (up rfl (up rfl (up rfl hs8)))))))))))), tp, hst⟩
    rintro τ w ⟨j7, hF, hs0, hs1, hs2, hs6, hs8, hs45, hst⟩
    unfold EnvBack_j2 at hF
    refine CW.cond (AF_ev rfl hs45) (fun hc10 => ?_) (fun hc10 => ?_)
    · have hF := ct hc10 hF
      refine CW.seq ?_
      refine CW.region ?_
      refine RW.soft Wd.a (v := .bool true) (by exact E.assign rfl) ?_
      refine RW.fin (fun τ => τ 0 = .slice X_t n_t c_t ∧ τ 1 = .slice X_o o.length c_o ∧ τ 2 = .slice X_A' A'.length c_A' ∧ τ 6 = .bool true ∧ τ 8 = .pointer (some ⟨b3, 0, none⟩) ∧ τ 45 = .bool true) ⟨up rfl hs0, up rfl hs1, up rfl hs2, tp, up rfl hs8, up rfl (Eq.trans hs45 (congrArg Value.bool hc10))⟩ ?_
      rintro τ ⟨hs0, hs1, hs2, hs6, hs8, hs45⟩
      refine CW.ret ?_
      refine Th.r ?_
      refine ret1 (v := .bool true) rfl (by exact (.tmp (AF_ev rfl hs6) .nil)) ?_
      have hst := hst.take (.there .here)
      have hst := (hst.take (.there .here)).drop
      rw [somE hF]
      exact ⟨rfl, hst⟩
    · have hF := cf hc10 hF
      refine CW.skip ?_
      refine Th.n ?_
      refine CW.seq ?_
      refine CW.region ?_
      refine RW.soft Wd.a (v := .pointer (some ⟨b3, 0, none⟩)) (by exact E.move (AF_ev rfl hs8)) ?_
      refine RW.soft Wd.a (v := .slice X_t n_t c_t) (by exact E.move (AF_ev rfl (up rfl hs0))) ?_
      obtain ⟨hg11, hF⟩ := pl hF
      obtain ⟨b12, o13, rfl⟩ := SL.Src.someOf (show SL.Src w 32 (.slice X_t n_t c_t) n_t (t.map bu8) from (hS_t _ _ (hst.take (.there .here)))) (by omega)
      refine RW.soft Wd.a (v := .pointer (some ⟨b12, o13, none⟩)) (by exact E.indexAddr (b := b12) (o := o13) (l := n_t) (c := c_t) (i := 0) Try.underlying48 sz34 (AF_ev rfl tp) rfl (by omega) (by omega) (by omega)) ?_
      obtain ⟨a14, h_a14, hF⟩ := lp hF
      have hl_a14 : a14.length = 32 := by rw [h_a14]; exact sl_len rfl (by omega)
      refine RW.soft Wd.a (v := .agg ((a14.map bu8)).toArray) (by exact E.loadN (b := b12) (o := o13) (cs := (a14.map bu8)) Try.underlying34 rfl sz34 (AF_ev rfl tp) ((List.length_map _).trans hl_a14) (by have h_ := Src.cellsFromZ (r := 0) (ys := (a14.map bu8)) ((hS_t _ _ (hst.take (.there .here)))) (by rw [h_a14]; exact subF (r := 0)); simpa using h_)) ?_
      obtain ⟨r15, h_r15, hF⟩ := lp hF
      refine RW.hard Wd.a ?_
      refine H.call0 Try.func17 nm17 rfl (map2 (AF_ev rfl (up rfl (up rfl (up rfl tp)))) (AF_ev rfl tp)) (Calls.mono (Create_B   a14 hl_a14 r15 h_r15 hst) ?_)
      rintro _ w ⟨rfl, h1q16, h2q16, hst⟩
      refine ⟨_, rfl, ?_⟩
      show RW _ _ _ _ _ _ _
      refine RW.soft Wd.a (v := .tuple #[.int .i64 r15.1, .int .i64 r15.2.1]) (by exact E.move (AF_ev rfl tp)) ?_
      refine RW.soft Wd.a (v := .int .i64 r15.1) (by exact E.extract (vs := #[.int .i64 r15.1, .int .i64 r15.2.1]) (AF_ev rfl tp) rfl) ?_
      refine RW.soft Wd.a (v := .int .i64 r15.2.1) (by exact E.extract (vs := #[.int .i64 r15.1, .int .i64 r15.2.1]) (AF_ev rfl (up rfl tp)) rfl) ?_
      refine RW.soft Wd.a (v := .int .i64 r15.1) (by exact E.assign (AF_ev rfl (up rfl tp))) ?_
      refine RW.soft Wd.a (v := .int .i64 r15.2.1) (by exact E.assign (AF_ev rfl (up rfl tp))) ?_
      refine RW.fin (fun τ => τ 0 = .slice (some ⟨b12, o13, none⟩) n_t c_t ∧ τ 1 = .slice X_o o.length c_o ∧ τ 2 = .slice X_A' A'.length c_A' ∧ τ 6 = .bool false ∧ τ 8 = .pointer (some ⟨b3, 0, none⟩) ∧ τ 9 = .int .i64 r15.1 ∧ τ 10 = .int .i64 r15.2.1 ∧ τ 45 = .bool false) ⟨up rfl (up rfl (up rfl (up rfl (up rfl (up rfl (up rfl (up rfl (up rfl (up rfl hs0))))))))), up rfl (up rfl (up rfl (up rfl (up rfl (up rfl (up rfl (up rfl (up rfl (up rfl hs1))))))))), up rfl (up rfl (up rfl (up rfl (up rfl (up rfl (up rfl (up rfl (up rfl (up rfl hs2))))))))), up rfl (up rfl (up rfl (up rfl (up rfl (up rfl (up rfl (up rfl (up rfl (up rfl hs6))))))))), up rfl (up rfl (up rfl (up rfl (up rfl (up rfl (up rfl (up rfl (up rfl (up rfl hs8))))))))), up rfl tp, tp, up rfl (up rfl (up rfl (up rfl (up rfl (up rfl (up rfl (up rfl (up rfl (up rfl (Eq.trans hs45 (congrArg Value.bool hc10)))))))))))⟩ ?_
      rintro τ ⟨hs0, hs1, hs2, hs6, hs8, hs9, hs10, hs45⟩
      refine CW.seq ?_
      refine CW.region ?_
      refine RW.soft Wd.a (v := .pointer (some ⟨b3, 0, none⟩)) (by exact E.move (AF_ev rfl hs8)) ?_
      refine RW.soft Wd.a (v := .int .i64 r15.1) (by exact E.move (AF_ev rfl (up rfl hs9))) ?_
      refine RW.soft Wd.a (v := .slice X_o o.length c_o) (by exact E.move (AF_ev rfl (up rfl (up rfl hs1)))) ?_
      refine RW.soft Wd.a (v := .slice X_A' A'.length c_A') (by exact E.move (AF_ev rfl (up rfl (up rfl (up rfl hs2))))) ?_
      obtain ⟨hg17, hF⟩ := pl hF
      obtain ⟨hg18, hF⟩ := pl hF
      obtain ⟨r19, h_r19, hF⟩ := bd hF
      have hst := hst.take (.there .here)
      have hst := hst.take (.there .here)
      refine RW.hard Wd.a ?_
      refine H.call0 Try.func18 nm18 rfl (map4 (AF_ev rfl (up rfl (up rfl (up rfl tp)))) (AF_ev rfl (up rfl (up rfl tp))) (AF_ev rfl (up rfl tp)) (AF_ev rfl tp)) (Calls.mono (Encrypt_C (A := A) r15.2.2 r15.1 (by omega) o (by first | omega | (simp; done)) (fun w H s => (hS_o _ _ s)) A' (by first | omega | (simp; done)) (fun w H s => (hS_A' _ _ s)) r19 h_r19 hst) ?_)
      rintro _ w ⟨Xq20_0, cq20_0, rfl, hm_q20_0, hr_q20_1, hr_q20_2, hst⟩
      refine ⟨_, rfl, ?_⟩
      show RW _ _ _ _ _ _ _
      refine RW.soft Wd.a (v := .tuple #[.slice Xq20_0 r19.1.length cq20_0, .int .i64 r19.2.1, .int .i64 r19.2.2.1]) (by exact E.move (AF_ev rfl tp)) ?_
      refine RW.soft Wd.a (v := .slice Xq20_0 r19.1.length cq20_0) (by exact E.extract (vs := #[.slice Xq20_0 r19.1.length cq20_0, .int .i64 r19.2.1, .int .i64 r19.2.2.1]) (AF_ev rfl tp) rfl) ?_
      refine RW.soft Wd.a (v := .int .i64 r19.2.1) (by exact E.extract (vs := #[.slice Xq20_0 r19.1.length cq20_0, .int .i64 r19.2.1, .int .i64 r19.2.2.1]) (AF_ev rfl (up rfl tp)) rfl) ?_
      refine RW.soft Wd.a (v := .int .i64 r19.2.2.1) (by exact E.extract (vs := #[.slice Xq20_0 r19.1.length cq20_0, .int .i64 r19.2.1, .int .i64 r19.2.2.1]) (AF_ev rfl (up rfl (up rfl tp))) rfl) ?_
      refine RW.soft Wd.a (v := .slice Xq20_0 r19.1.length cq20_0) (by exact E.assign (AF_ev rfl (up rfl (up rfl tp)))) ?_
      refine RW.soft Wd.a (v := .int .i64 r19.2.1) (by exact E.assign (AF_ev rfl (up rfl (up rfl tp)))) ?_
      refine RW.soft Wd.a (v := .int .i64 r19.2.2.1) (by exact E.assign (AF_ev rfl (up rfl (up rfl tp)))) ?_
      refine RW.fin (fun τ => τ 0 = .slice (some ⟨b12, o13, none⟩) n_t c_t ∧ τ 1 = .slice X_o o.length c_o ∧ τ 2 = .slice X_A' A'.length c_A' ∧ τ 6 = .bool false ∧ τ 8 = .pointer (some ⟨b3, 0, none⟩) ∧ τ 9 = .int .i64 r15.1 ∧ τ 10 = .int .i64 r15.2.1 ∧ τ 11 = .slice Xq20_0 r19.1.length cq20_0 ∧ τ 12 = .int .i64 r19.2.1 ∧ τ 13 = .int .i64 r19.2.2.1 ∧ τ 45 = .bool false) ⟨up rfl (up rfl (up rfl (up rfl (up rfl (up rfl (up rfl (up rfl (up rfl (up rfl (up rfl (up rfl hs0))))))))))), up rfl (up rfl (up rfl (up rfl (up rfl (up rfl (up rfl (up rfl (up rfl (up rfl (up rfl (up rfl hs1))))))))))), up rfl (up rfl (up rfl (up rfl (up rfl (up rfl (up rfl (up rfl (up rfl (up rfl (up rfl (up rfl hs2))))))))))), up rfl (up rfl (up rfl (up rfl (up rfl (up rfl (up rfl (up rfl (up rfl (up rfl (up rfl (up rfl hs6))))))))))), up rfl (up rfl (up rfl (up rfl (up rfl (up rfl (up rfl (up rfl (up rfl (up rfl (up rfl (up rfl hs8))))))))))), up rfl (up rfl (up rfl (up rfl (up rfl (up rfl (up rfl (up rfl (up rfl (up rfl (up rfl (up rfl hs9))))))))))), up rfl (up rfl (up rfl (up rfl (up rfl (up rfl (up rfl (up rfl (up rfl (up rfl (up rfl (up rfl hs10))))))))))), up rfl (up rfl tp), up rfl tp, tp, up rfl (up rfl (up rfl (up rfl (up rfl (up rfl (up rfl (up rfl (up rfl (up rfl (up rfl (up rfl hs45)))))))))))⟩ ?_
      rintro τ ⟨hs0, hs1, hs2, hs6, hs8, hs9, hs10, hs11, hs12, hs13, hs45⟩
      refine CW.seq ?_
      refine CW.region ?_
      refine RW.soft Wd.a (v := .agg (((List.replicate 12 0#8).map bu8)).toArray) (by exact E.build (vs := #[]) (by simp) (by kernel_rfl)) ?_
      refine RW.soft Wd.a (v := .slice (some ⟨b12, o13, none⟩) n_t c_t) (by exact E.move (AF_ev rfl (up rfl hs0))) ?_
      obtain ⟨hg21, hF⟩ := pl hF
      refine RW.soft Wd.a (v := .pointer (some ⟨b12, o13, none⟩)) (by exact E.indexAddr (b := b12) (o := o13) (l := n_t) (c := c_t) (i := 0) Try.underlying48 sz34 (AF_ev rfl tp) rfl (by omega) (by omega) (by omega)) ?_
      obtain ⟨a22, h_a22, hF⟩ := lp hF
      have hl_a22 : a22.length = 32 := by rw [h_a22]; exact sl_len rfl (by omega)
      refine RW.soft Wd.a (v := .agg ((a22.map bu8)).toArray) (by exact E.loadN (b := b12) (o := o13) (cs := (a22.map bu8)) Try.underlying34 rfl sz34 (AF_ev rfl tp) ((List.length_map _).trans hl_a22) (by have h_ := Src.cellsFromZ (r := 0) (ys := (a22.map bu8)) ((hS_t _ _ (hst.take (.there (.there .here))))) (by rw [h_a22]; exact subF (r := 0)); simpa using h_)) ?_
      refine RW.soft Wd.a (v := .agg (((List.replicate 12 0#8).map bu8)).toArray) (by exact E.build (vs := #[]) (by simp) (by kernel_rfl)) ?_
      refine RW.soft Wd.a (v := .slice X_A' A'.length c_A') (by exact E.move (AF_ev rfl (up rfl (up rfl (up rfl (up rfl (up rfl hs2))))))) ?_
      refine RW.soft Wd.a (v := .slice X_o o.length c_o) (by exact E.move (AF_ev rfl (up rfl (up rfl (up rfl (up rfl (up rfl (up rfl hs1)))))))) ?_
      obtain ⟨hg23, hF⟩ := pl hF
      obtain ⟨hg24, hF⟩ := pl hF
      obtain ⟨r25, h_r25, hF⟩ := bd hF
      have hst := hst.take (.there (.there .here))
      refine RW.hard Wd.a ?_
      refine H.call0 Try.func22 nm22 rfl (map4 (AF_ev rfl (up rfl (up rfl (up rfl tp)))) (AF_ev rfl (up rfl (up rfl tp))) (AF_ev rfl (up rfl tp)) (AF_ev rfl tp)) (Calls.mono (GSeal_C (A := A) a22 hl_a22 (List.replicate 12 0#8) (List.length_replicate) A' (by first | omega | (simp; done)) (fun w H s => (hS_A' _ _ s)) o (by first | omega | (simp; done)) (fun w H s => (hS_o _ _ s)) r25 h_r25 hst) ?_)
      rintro _ w ⟨Xq26_0, cq26_0, rfl, hm_q26_0, hst⟩
      refine ⟨_, rfl, ?_⟩
      show RW _ _ _ _ _ _ _
      obtain ⟨r27, h_r27, hF⟩ := bd hF
      refine RW.hard Wd.a ?_
      refine H.call0 Try.func14 nm14 rfl (map4 rfl rfl (AF_ev rfl (up rfl (up rfl (up rfl (up rfl (up rfl (up rfl (up rfl tp)))))))) (AF_ev rfl tp)) (Calls.mono (RBlob_C (A := SL.Own 5 1 (.slice Xq26_0 r25.length cq26_0) r25.length (r25.map bu8)) 1 (by omega) 1 (by omega) (List.replicate 12 0#8) (List.length_replicate) r25 (by first | omega | (simp; done)) (fun w H s => (Own.src s)) r27 h_r27 hst) ?_)
      rintro _ w ⟨Xq28_0, cq28_0, rfl, hm_q28_0, hst⟩
      refine ⟨_, rfl, ?_⟩
      show RW _ _ _ _ _ _ _
      refine RW.soft Wd.a (v := .slice Xq28_0 r27.length cq28_0) (by exact E.assign (AF_ev rfl tp)) ?_
      refine RW.fin (fun τ => τ 0 = .slice (some ⟨b12, o13, none⟩) n_t c_t ∧ τ 1 = .slice X_o o.length c_o ∧ τ 2 = .slice X_A' A'.length c_A' ∧ τ 6 = .bool false ∧ τ 8 = .pointer (some ⟨b3, 0, none⟩) ∧ τ 9 = .int .i64 r15.1 ∧ τ 10 = .int .i64 r15.2.1 ∧ τ 11 = .slice Xq20_0 r19.1.length cq20_0 ∧ τ 12 = .int .i64 r19.2.1 ∧ τ 13 = .int .i64 r19.2.2.1 ∧ τ 14 = .slice Xq28_0 r27.length cq28_0 ∧ τ 45 = .bool false) ⟨up rfl (up rfl (up rfl (up rfl (up rfl (up rfl (up rfl (up rfl (up rfl (up rfl hs0))))))))), up rfl (up rfl (up rfl (up rfl (up rfl (up rfl (up rfl (up rfl (up rfl (up rfl hs1))))))))), up rfl (up rfl (up rfl (up rfl (up rfl (up rfl (up rfl (up rfl (up rfl (up rfl hs2))))))))), up rfl (up rfl (up rfl (up rfl (up rfl (up rfl (up rfl (up rfl (up rfl (up rfl hs6))))))))), up rfl (up rfl (up rfl (up rfl (up rfl (up rfl (up rfl (up rfl (up rfl (up rfl hs8))))))))), up rfl (up rfl (up rfl (up rfl (up rfl (up rfl (up rfl (up rfl (up rfl (up rfl hs9))))))))), up rfl (up rfl (up rfl (up rfl (up rfl (up rfl (up rfl (up rfl (up rfl (up rfl hs10))))))))), up rfl (up rfl (up rfl (up rfl (up rfl (up rfl (up rfl (up rfl (up rfl (up rfl hs11))))))))), up rfl (up rfl (up rfl (up rfl (up rfl (up rfl (up rfl (up rfl (up rfl (up rfl hs12))))))))), up rfl (up rfl (up rfl (up rfl (up rfl (up rfl (up rfl (up rfl (up rfl (up rfl hs13))))))))), tp, up rfl (up rfl (up rfl (up rfl (up rfl (up rfl (up rfl (up rfl (up rfl (up rfl hs45)))))))))⟩ ?_
      rintro τ ⟨hs0, hs1, hs2, hs6, hs8, hs9, hs10, hs11, hs12, hs13, hs14, hs45⟩
      refine CW.seq ?_
      refine CW.seqJ (fun τ w => ∃ (j29 : Bool), EnvBack_j3 n_t t o A' r15 r19 j29 = some r ∧ τ 0 = .slice (some ⟨b12, o13, none⟩) n_t c_t ∧ τ 1 = .slice X_o o.length c_o ∧ τ 2 = .slice X_A' A'.length c_A' ∧ τ 6 = .bool false ∧ τ 8 = .pointer (some ⟨b3, 0, none⟩) ∧ τ 9 = .int .i64 r15.1 ∧ τ 11 = .slice Xq20_0 r19.1.length cq20_0 ∧ τ 88 = .bool j29 ∧ St p w (A :: KeysB 103 b3 r19.2.2.2 :: SL.Own 5 1 (.slice Xq20_0 r19.1.length cq20_0) r19.1.length (r19.1.map bu8) :: R)) ?_ ?_
      · skip
        refine CW.region ?_
        refine RW.soft Wd.a (v := .int .i64 r15.2.1) (by exact E.move (AF_ev rfl hs10)) ?_
        refine RW.soft Wd.a (v := .bool (r15.2.1 != 0)) (by exact E.neq (k := .i64) (a := r15.2.1) (b := 0) (AF_ev rfl tp) rfl) ?_
        refine RW.soft Wd.a (v := .bool (r15.2.1 != 0)) (by exact E.move (AF_ev rfl tp)) ?_
        refine Or.elim (Bool.eq_false_or_eq_true (r15.2.1 != 0)) (fun hw30 => ?_) (fun hw30 => ?_)
        · have hF := ct hw30 hF
          have hw30_ := hw30
          try simp only [bne_iff_ne, ne_eq] at hw30_
          refine RW.pass (by exact Wd.no (x := 74) (b := true) rfl (AF_ev rfl (Eq.trans tp (congrArg Value.bool hw30))) rfl) ?_
          refine RW.pass (by exact Wd.no (x := 74) (b := true) rfl (AF_ev rfl (up rfl (Eq.trans tp (congrArg Value.bool hw30)))) rfl) ?_
          refine RW.soft Wd.a (v := .bool true) (by exact E.pickT (AF_ev rfl (up rfl (up rfl (Eq.trans tp (congrArg Value.bool hw30))))) rfl) ?_
          refine RW.soft Wd.a (v := .bool true) (by exact E.move (AF_ev rfl tp)) ?_
          refine RW.pass (by exact Wd.no (x := 78) (b := true) rfl (AF_ev rfl tp) rfl) ?_
          refine RW.pass (by exact Wd.no (x := 78) (b := true) rfl (AF_ev rfl (up rfl tp)) rfl) ?_
          refine RW.soft Wd.a (v := .bool true) (by exact E.pickT (AF_ev rfl (up rfl (up rfl tp))) rfl) ?_
          refine RW.soft Wd.a (v := .bool true) (by exact E.move (AF_ev rfl tp)) ?_
          refine RW.pass (by exact Wd.no (x := 82) (b := true) rfl (AF_ev rfl tp) rfl) ?_
          refine RW.pass (by exact Wd.no (x := 82) (b := true) rfl (AF_ev rfl (up rfl tp)) rfl) ?_
          refine RW.pass (by exact Wd.no (x := 82) (b := true) rfl (AF_ev rfl (up rfl (up rfl tp))) rfl) ?_
          refine RW.pass (by exact Wd.no (x := 82) (b := true) rfl (AF_ev rfl (up rfl (up rfl (up rfl tp)))) rfl) ?_
          refine RW.pass (by exact Wd.no (x := 82) (b := true) rfl (AF_ev rfl (up rfl (up rfl (up rfl (up rfl tp))))) rfl) ?_
          refine RW.soft Wd.a (v := .bool true) (by exact E.pickT (AF_ev rfl (up rfl (up rfl (up rfl (up rfl (up rfl tp)))))) rfl) ?_
          refine RW.nil ?_
          refine Th.n ?_
          have hst := hst.take (.there (.there (.there .here)))
          have hst := hst.take (.there (.there (.there (.there .here))))
          have hst := hst.take (.there (.there (.there (.there .here))))
          have hst := (hst.take (.there (.there (.there .here)))).drop
          have hst := (hst.take (.there (.there (.there .here)))).drop
          exact ⟨true, hF, up rfl (up rfl (up rfl (up rfl (up rfl (up rfl (up rfl (up rfl (up rfl (up rfl (up rfl (up rfl (up rfl (up rfl (up rfl (up rfl (up rfl hs0)))))))))))))))), up rfl (up rfl (up rfl (up rfl (up rfl (up rfl (up rfl (up rfl (up rfl (up rfl (up rfl (up rfl (up rfl (up rfl (up rfl (up rfl (up rfl hs1)))))))))))))))), up rfl (up rfl (up rfl (up rfl (up rfl (up rfl (up rfl (up rfl (up rfl (up rfl (up rfl (up rfl (up rfl (up rfl (up rfl (up rfl (up rfl hs2)))))))))))))))), up rfl (up rfl (up rfl (up rfl (up rfl (up rfl (up rfl (up rfl (up rfl (up rfl (up rfl (up rfl (up rfl (up rfl (up rfl (up rfl (up rfl hs6)))))))))))))))), up rfl (up rfl (up rfl (up rfl (up rfl (up rfl (up rfl (up rfl (up rfl (up rfl (up rfl (up rfl (up rfl (up rfl (up rfl (up rfl (up rfl hs8)))))))))))))))), up rfl (up rfl (up rfl (up rfl (up rfl (up rfl (up rfl (up rfl (up rfl (up rfl (up rfl (up rfl (up rfl (up rfl (up rfl (up rfl (up rfl hs9)))))))))))))))), up rfl (up rfl (up rfl (up rfl (up rfl (up rfl (up rfl (up rfl (up rfl (up rfl (up rfl (up rfl (up rfl (up rfl (up rfl (up rfl (up rfl hs11)))))))))))))))), tp, hst⟩
        · have hF := cf hw30 hF
          have hw30_ := hw30
          try simp only [bne_eq_false_iff_eq] at hw30_
          refine RW.soft (by exact Wd.yes (x := 74) rfl (AF_ev rfl (Eq.trans tp (congrArg Value.bool hw30)))) (v := .int .i64 r19.2.2.1) (by exact E.move (AF_ev rfl (up rfl (up rfl (up rfl hs13))))) ?_
          refine RW.soft (by exact Wd.yes (x := 74) rfl (AF_ev rfl (up rfl (Eq.trans tp (congrArg Value.bool hw30))))) (v := .bool (r19.2.2.1 != 0)) (by exact E.neq (k := .i64) (a := r19.2.2.1) (b := 0) (AF_ev rfl tp) rfl) ?_
          refine RW.soft Wd.a (v := .bool (r19.2.2.1 != 0)) (by exact E.pickF (AF_ev rfl (up rfl (up rfl (Eq.trans tp (congrArg Value.bool hw30))))) (AF_ev rfl tp)) ?_
          refine RW.soft Wd.a (v := .bool (r19.2.2.1 != 0)) (by exact E.move (AF_ev rfl tp)) ?_
          refine Or.elim (Bool.eq_false_or_eq_true (r19.2.2.1 != 0)) (fun hw31 => ?_) (fun hw31 => ?_)
          · have hF := ct hw31 hF
            have hw31_ := hw31
            try simp only [bne_iff_ne, ne_eq] at hw31_
            refine RW.pass (by exact Wd.no (x := 78) (b := true) rfl (AF_ev rfl (Eq.trans tp (congrArg Value.bool hw31))) rfl) ?_
            refine RW.pass (by exact Wd.no (x := 78) (b := true) rfl (AF_ev rfl (up rfl (Eq.trans tp (congrArg Value.bool hw31)))) rfl) ?_
            refine RW.soft Wd.a (v := .bool true) (by exact E.pickT (AF_ev rfl (up rfl (up rfl (Eq.trans tp (congrArg Value.bool hw31))))) rfl) ?_
            refine RW.soft Wd.a (v := .bool true) (by exact E.move (AF_ev rfl tp)) ?_
            refine RW.pass (by exact Wd.no (x := 82) (b := true) rfl (AF_ev rfl tp) rfl) ?_
            refine RW.pass (by exact Wd.no (x := 82) (b := true) rfl (AF_ev rfl (up rfl tp)) rfl) ?_
            refine RW.pass (by exact Wd.no (x := 82) (b := true) rfl (AF_ev rfl (up rfl (up rfl tp))) rfl) ?_
            refine RW.pass (by exact Wd.no (x := 82) (b := true) rfl (AF_ev rfl (up rfl (up rfl (up rfl tp)))) rfl) ?_
            refine RW.pass (by exact Wd.no (x := 82) (b := true) rfl (AF_ev rfl (up rfl (up rfl (up rfl (up rfl tp))))) rfl) ?_
            refine RW.soft Wd.a (v := .bool true) (by exact E.pickT (AF_ev rfl (up rfl (up rfl (up rfl (up rfl (up rfl tp)))))) rfl) ?_
            refine RW.nil ?_
            refine Th.n ?_
            have hst := hst.take (.there (.there (.there .here)))
            have hst := hst.take (.there (.there (.there (.there .here))))
            have hst := hst.take (.there (.there (.there (.there .here))))
            have hst := (hst.take (.there (.there (.there .here)))).drop
            have hst := (hst.take (.there (.there (.there .here)))).drop
            exact ⟨true, hF, up rfl (up rfl (up rfl (up rfl (up rfl (up rfl (up rfl (up rfl (up rfl (up rfl (up rfl (up rfl (up rfl (up rfl (up rfl (up rfl (up rfl hs0)))))))))))))))), up rfl (up rfl (up rfl (up rfl (up rfl (up rfl (up rfl (up rfl (up rfl (up rfl (up rfl (up rfl (up rfl (up rfl (up rfl (up rfl (up rfl hs1)))))))))))))))), up rfl (up rfl (up rfl (up rfl (up rfl (up rfl (up rfl (up rfl (up rfl (up rfl (up rfl (up rfl (up rfl (up rfl (up rfl (up rfl (up rfl hs2)))))))))))))))), up rfl (up rfl (up rfl (up rfl (up rfl (up rfl (up rfl (up rfl (up rfl (up rfl (up rfl (up rfl (up rfl (up rfl (up rfl (up rfl (up rfl hs6)))))))))))))))), up rfl (up rfl (up rfl (up rfl (up rfl (up rfl (up rfl (up rfl (up rfl (up rfl (up rfl (up rfl (up rfl (up rfl (up rfl (up rfl (up rfl hs8)))))))))))))))), up rfl (up rfl (up rfl (up rfl (up rfl (up rfl (up rfl (up rfl (up rfl (up rfl (up rfl (up rfl (up rfl (up rfl (up rfl (up rfl (up rfl hs9)))))))))))))))), up rfl (up rfl (up rfl (up rfl (up rfl (up rfl (up rfl (up rfl (up rfl (up rfl (up rfl (up rfl (up rfl (up rfl (up rfl (up rfl (up rfl hs11)))))))))))))))), tp, hst⟩
          · have hF := cf hw31 hF
            have hw31_ := hw31
            try simp only [bne_eq_false_iff_eq] at hw31_
            refine RW.soft (by exact Wd.yes (x := 78) rfl (AF_ev rfl (Eq.trans tp (congrArg Value.bool hw31)))) (v := .int .i64 r19.2.1) (by exact E.move (AF_ev rfl (up rfl (up rfl (up rfl (up rfl (up rfl (up rfl (up rfl hs12))))))))) ?_
            refine RW.soft (by exact Wd.yes (x := 78) rfl (AF_ev rfl (up rfl (Eq.trans tp (congrArg Value.bool hw31))))) (v := .bool (r19.2.1 != 1)) (by exact E.neq (k := .i64) (a := r19.2.1) (b := 1) (AF_ev rfl tp) rfl) ?_
            refine RW.soft Wd.a (v := .bool (r19.2.1 != 1)) (by exact E.pickF (AF_ev rfl (up rfl (up rfl (Eq.trans tp (congrArg Value.bool hw31))))) (AF_ev rfl tp)) ?_
            refine RW.soft Wd.a (v := .bool (r19.2.1 != 1)) (by exact E.move (AF_ev rfl tp)) ?_
            refine Or.elim (Bool.eq_false_or_eq_true (r19.2.1 != 1)) (fun hw32 => ?_) (fun hw32 => ?_)
            · have hF := ct hw32 hF
              have hw32_ := hw32
              try simp only [bne_iff_ne, ne_eq] at hw32_
              refine RW.pass (by exact Wd.no (x := 82) (b := true) rfl (AF_ev rfl (Eq.trans tp (congrArg Value.bool hw32))) rfl) ?_
              refine RW.pass (by exact Wd.no (x := 82) (b := true) rfl (AF_ev rfl (up rfl (Eq.trans tp (congrArg Value.bool hw32)))) rfl) ?_
              refine RW.pass (by exact Wd.no (x := 82) (b := true) rfl (AF_ev rfl (up rfl (up rfl (Eq.trans tp (congrArg Value.bool hw32))))) rfl) ?_
              refine RW.pass (by exact Wd.no (x := 82) (b := true) rfl (AF_ev rfl (up rfl (up rfl (up rfl (Eq.trans tp (congrArg Value.bool hw32)))))) rfl) ?_
              refine RW.pass (by exact Wd.no (x := 82) (b := true) rfl (AF_ev rfl (up rfl (up rfl (up rfl (up rfl (Eq.trans tp (congrArg Value.bool hw32))))))) rfl) ?_
              refine RW.soft Wd.a (v := .bool true) (by exact E.pickT (AF_ev rfl (up rfl (up rfl (up rfl (up rfl (up rfl (Eq.trans tp (congrArg Value.bool hw32)))))))) rfl) ?_
              refine RW.nil ?_
              refine Th.n ?_
              have hst := hst.take (.there (.there (.there .here)))
              have hst := hst.take (.there (.there (.there (.there .here))))
              have hst := hst.take (.there (.there (.there (.there .here))))
              have hst := (hst.take (.there (.there (.there .here)))).drop
              have hst := (hst.take (.there (.there (.there .here)))).drop
              exact ⟨true, hF, up rfl (up rfl (up rfl (up rfl (up rfl (up rfl (up rfl (up rfl (up rfl (up rfl (up rfl (up rfl (up rfl (up rfl (up rfl (up rfl (up rfl hs0)))))))))))))))), up rfl (up rfl (up rfl (up rfl (up rfl (up rfl (up rfl (up rfl (up rfl (up rfl (up rfl (up rfl (up rfl (up rfl (up rfl (up rfl (up rfl hs1)))))))))))))))), up rfl (up rfl (up rfl (up rfl (up rfl (up rfl (up rfl (up rfl (up rfl (up rfl (up rfl (up rfl (up rfl (up rfl (up rfl (up rfl (up rfl hs2)))))))))))))))), up rfl (up rfl (up rfl (up rfl (up rfl (up rfl (up rfl (up rfl (up rfl (up rfl (up rfl (up rfl (up rfl (up rfl (up rfl (up rfl (up rfl hs6)))))))))))))))), up rfl (up rfl (up rfl (up rfl (up rfl (up rfl (up rfl (up rfl (up rfl (up rfl (up rfl (up rfl (up rfl (up rfl (up rfl (up rfl (up rfl hs8)))))))))))))))), up rfl (up rfl (up rfl (up rfl (up rfl (up rfl (up rfl (up rfl (up rfl (up rfl (up rfl (up rfl (up rfl (up rfl (up rfl (up rfl (up rfl hs9)))))))))))))))), up rfl (up rfl (up rfl (up rfl (up rfl (up rfl (up rfl (up rfl (up rfl (up rfl (up rfl (up rfl (up rfl (up rfl (up rfl (up rfl (up rfl hs11)))))))))))))))), tp, hst⟩
            · have hF := cf hw32 hF
              have hw32_ := hw32
              try simp only [bne_eq_false_iff_eq] at hw32_
              refine RW.soft (by exact Wd.yes (x := 82) rfl (AF_ev rfl (Eq.trans tp (congrArg Value.bool hw32)))) (v := .slice Xq20_0 r19.1.length cq20_0) (by exact E.move (AF_ev rfl (up rfl (up rfl (up rfl (up rfl (up rfl (up rfl (up rfl (up rfl (up rfl (up rfl (up rfl hs11))))))))))))) ?_
              refine RW.soft (by exact Wd.yes (x := 82) rfl (AF_ev rfl (up rfl (Eq.trans tp (congrArg Value.bool hw32))))) (v := .string (sb r19.1)) (by exact E.strB (v := .slice Xq20_0 r19.1.length cq20_0) (m := r19.1.length) (l := r19.1) Try.underlying25 Try.underlying5 Try.underlying9 (AF_ev rfl tp) ((Own.src (hst.take (.there (.there (.there .here))))))) ?_
              refine RW.soft (by exact Wd.yes (x := 82) rfl (AF_ev rfl (up rfl (up rfl (Eq.trans tp (congrArg Value.bool hw32)))))) (v := .slice Xq28_0 r27.length cq28_0) (by exact E.move (AF_ev rfl (up rfl (up rfl (up rfl (up rfl (up rfl (up rfl (up rfl (up rfl (up rfl (up rfl (up rfl (up rfl (up rfl hs14))))))))))))))) ?_
              refine RW.soft (by exact Wd.yes (x := 82) rfl (AF_ev rfl (up rfl (up rfl (up rfl (Eq.trans tp (congrArg Value.bool hw32))))))) (v := .string (sb r27)) (by exact E.strB (v := .slice Xq28_0 r27.length cq28_0) (m := r27.length) (l := r27) Try.underlying25 Try.underlying5 Try.underlying9 (AF_ev rfl tp) ((Own.src (hst.take .here)))) ?_
              refine RW.soft (by exact Wd.yes (x := 82) rfl (AF_ev rfl (up rfl (up rfl (up rfl (up rfl (Eq.trans tp (congrArg Value.bool hw32)))))))) (v := .bool (r19.1 != r27)) (by exact E.neqSB (a := r19.1) (b := r27) (AF_ev rfl (up rfl (up rfl tp))) (AF_ev rfl tp)) ?_
              refine RW.soft Wd.a (v := .bool (r19.1 != r27)) (by exact E.pickF (AF_ev rfl (up rfl (up rfl (up rfl (up rfl (up rfl (Eq.trans tp (congrArg Value.bool hw32)))))))) (AF_ev rfl tp)) ?_
              refine RW.nil ?_
              refine Th.n ?_
              have hst := hst.take (.there (.there (.there .here)))
              have hst := hst.take (.there (.there (.there (.there .here))))
              have hst := hst.take (.there (.there (.there (.there .here))))
              have hst := (hst.take (.there (.there (.there .here)))).drop
              have hst := (hst.take (.there (.there (.there .here)))).drop
              exact ⟨(r19.1 != r27), hF, up rfl (up rfl (up rfl (up rfl (up rfl (up rfl (up rfl (up rfl (up rfl (up rfl (up rfl (up rfl (up rfl (up rfl (up rfl (up rfl (up rfl hs0)))))))))))))))), up rfl (up rfl (up rfl (up rfl (up rfl (up rfl (up rfl (up rfl (up rfl (up rfl (up rfl (up rfl (up rfl (up rfl (up rfl (up rfl (up rfl hs1)))))))))))))))), up rfl (up rfl (up rfl (up rfl (up rfl (up rfl (up rfl (up rfl (up rfl (up rfl (up rfl (up rfl (up rfl (up rfl (up rfl (up rfl (up rfl hs2)))))))))))))))), up rfl (up rfl (up rfl (up rfl (up rfl (up rfl (up rfl (up rfl (up rfl (up rfl (up rfl (up rfl (up rfl (up rfl (up rfl (up rfl (up rfl hs6)))))))))))))))), up rfl (up rfl (up rfl (up rfl (up rfl (up rfl (up rfl (up rfl (up rfl (up rfl (up rfl (up rfl (up rfl (up rfl (up rfl (up rfl (up rfl hs8)))))))))))))))), up rfl (up rfl (up rfl (up rfl (up rfl (up rfl (up rfl (up rfl (up rfl (up rfl (up rfl (up rfl (up rfl (up rfl (up rfl (up rfl (up rfl hs9)))))))))))))))), up rfl (up rfl (up rfl (up rfl (up rfl (up rfl (up rfl (up rfl (up rfl (up rfl (up rfl (up rfl (up rfl (up rfl (up rfl (up rfl (up rfl hs11)))))))))))))))), tp, hst⟩
      rintro τ w ⟨j29, hF, hs0, hs1, hs2, hs6, hs8, hs9, hs11, hs88, hst⟩
      unfold EnvBack_j3 at hF
      refine CW.cond (AF_ev rfl hs88) (fun hc33 => ?_) (fun hc33 => ?_)
      · have hF := ct hc33 hF
        refine CW.seq ?_
        refine CW.region ?_
        refine RW.soft Wd.a (v := .bool false) (by exact E.assign rfl) ?_
        refine RW.fin (fun τ => τ 0 = .slice (some ⟨b12, o13, none⟩) n_t c_t ∧ τ 1 = .slice X_o o.length c_o ∧ τ 2 = .slice X_A' A'.length c_A' ∧ τ 6 = .bool false ∧ τ 8 = .pointer (some ⟨b3, 0, none⟩) ∧ τ 9 = .int .i64 r15.1 ∧ τ 11 = .slice Xq20_0 r19.1.length cq20_0 ∧ τ 88 = .bool true) ⟨up rfl hs0, up rfl hs1, up rfl hs2, tp, up rfl hs8, up rfl hs9, up rfl hs11, up rfl (Eq.trans hs88 (congrArg Value.bool hc33))⟩ ?_
        rintro τ ⟨hs0, hs1, hs2, hs6, hs8, hs9, hs11, hs88⟩
        refine CW.ret ?_
        refine Th.r ?_
        refine ret1 (v := .bool false) rfl (by exact (.tmp (AF_ev rfl hs6) .nil)) ?_
        have hst := (hst.take (.there .here)).drop
        have hst := (hst.take (.there .here)).drop
        rw [somE hF]
        exact ⟨rfl, hst⟩
      · have hF := cf hc33 hF
        refine CW.skip ?_
        refine Th.n ?_
        refine CW.seq ?_
        refine CW.seq ?_
        refine CW.region ?_
        refine RW.soft Wd.a (v := .int .i64 1) (by exact E.assign rfl) ?_
        refine RW.fin (fun τ => τ 0 = .slice (some ⟨b12, o13, none⟩) n_t c_t ∧ τ 1 = .slice X_o o.length c_o ∧ τ 2 = .slice X_A' A'.length c_A' ∧ τ 6 = .bool false ∧ τ 8 = .pointer (some ⟨b3, 0, none⟩) ∧ τ 9 = .int .i64 r15.1 ∧ τ 11 = .slice Xq20_0 r19.1.length cq20_0 ∧ τ 15 = .int .i64 1 ∧ τ 88 = .bool false) ⟨up rfl hs0, up rfl hs1, up rfl hs2, up rfl hs6, up rfl hs8, up rfl hs9, up rfl hs11, tp, up rfl (Eq.trans hs88 (congrArg Value.bool hc33))⟩ ?_
        rintro τ ⟨hs0, hs1, hs2, hs6, hs8, hs9, hs11, hs15, hs88⟩
        refine CW.block ?_
        refine CW.loop (fun (k39 : Nat) (τ : Fr) (w : World) => ∃ (s36 : Bool) (s37 : Int) (ks38 : RKB), (-9223372036854775808 ≤ s37 ∧ s37 ≤ 9223372036854775807) ∧ EnvBack_l4 n_t t o A' r15 r19 k39 s36 s37 ks38 = some r ∧ τ 6 = .bool s36 ∧ τ 15 = .int .i64 s37 ∧ τ 0 = .slice (some ⟨b12, o13, none⟩) n_t c_t ∧ τ 1 = .slice X_o o.length c_o ∧ τ 2 = .slice X_A' A'.length c_A' ∧ τ 8 = .pointer (some ⟨b3, 0, none⟩) ∧ τ 9 = .int .i64 r15.1 ∧ τ 11 = .slice Xq20_0 r19.1.length cq20_0 ∧ St p w (A :: KeysB 103 b3 ks38 :: SL.Own 5 1 (.slice Xq20_0 r19.1.length cq20_0) r19.1.length (r19.1.map bu8) :: R)) 1099511627776 ?_ ?_
        · skip
          have hst := hst.take (.there (.there .here))
          have hst := hst.take (.there (.there .here))
          have hst := hst.take (.there (.there .here))
          exact ⟨false, 1, r19.2.2.2, (by omega), hF, hs6, hs15, hs0, hs1, hs2, hs8, hs9, hs11, hst⟩
        clear hst hF
        rintro k39 τ w ⟨s36, s37, ks38, hr_s37, hF, hs6, hs15, hs0, hs1, hs2, hs8, hs9, hs11, hst⟩
        obtain ⟨k40, rfl⟩ := EnvBack_l4_pos hF
        rw [EnvBack_l4] at hF
        refine CW.seq ?_
        refine CW.seqJ (fun τ w => ∃ (j41 : Bool) (j42 : Bool) (j43 : Bool), EnvBack_j5 n_t t o A' r15 r19 s36 s37 ks38 (fun (s36_ : Bool) (s37_ : Int) (ks38_ : RKB) => EnvBack_l4 n_t t o A' r15 r19 k40 s36_ s37_ ks38_) j41 j42 j43 = some r ∧ τ 0 = .slice (some ⟨b12, o13, none⟩) n_t c_t ∧ τ 1 = .slice X_o o.length c_o ∧ τ 2 = .slice X_A' A'.length c_A' ∧ τ 6 = .bool s36 ∧ τ 8 = .pointer (some ⟨b3, 0, none⟩) ∧ τ 9 = .int .i64 r15.1 ∧ τ 11 = .slice Xq20_0 r19.1.length cq20_0 ∧ τ 15 = .int .i64 s37 ∧ τ 89 = .int .i64 s37 ∧ τ 90 = .slice (some ⟨b12, o13, none⟩) n_t c_t ∧ τ 91 = .int .i64 ((n_t : Nat) : Int) ∧ τ 92 = .bool j41 ∧ τ 93 = .bool j42 ∧ τ 96 = .bool j43 ∧ St p w (A :: KeysB 103 b3 ks38 :: SL.Own 5 1 (.slice Xq20_0 r19.1.length cq20_0) r19.1.length (r19.1.map bu8) :: R)) ?_ ?_
        · skip
          refine CW.region ?_
          refine RW.soft Wd.a (v := .int .i64 s37) (by exact E.move (AF_ev rfl hs15)) ?_
          refine RW.soft Wd.a (v := .slice (some ⟨b12, o13, none⟩) n_t c_t) (by exact E.move (AF_ev rfl (up rfl hs0))) ?_
          refine RW.soft Wd.a (v := .int .i64 ((n_t : Nat) : Int)) (by exact E.lenS (p := (some ⟨b12, o13, none⟩)) (l := n_t) (c := c_t) Try.underlying48 (AF_ev rfl tp)) ?_
          refine RW.soft Wd.a (v := .bool (decide (s37 < ((n_t : Nat) : Int)))) (by exact E.lss (k := .i64) (a := s37) (b := ((n_t : Nat) : Int)) (AF_ev rfl (up rfl (up rfl tp))) (AF_ev rfl tp)) ?_
          refine RW.soft Wd.a (v := .bool (decide (s37 < ((n_t : Nat) : Int)))) (by exact E.move (AF_ev rfl tp)) ?_
          refine Or.elim (Bool.eq_false_or_eq_true (decide (s37 < ((n_t : Nat) : Int)))) (fun hw44 => ?_) (fun hw44 => ?_)
          · have hF := ct hw44 hF
            have hw44_ := hw44
            try simp only [decide_eq_true_eq] at hw44_
            refine RW.soft (by exact Wd.yes (x := 93) rfl (AF_ev rfl (Eq.trans tp (congrArg Value.bool hw44)))) (v := .int .i64 s37) (by exact E.move (AF_ev rfl (up rfl (up rfl (up rfl (up rfl (up rfl hs15))))))) ?_
            refine RW.soft (by exact Wd.yes (x := 93) rfl (AF_ev rfl (up rfl (Eq.trans tp (congrArg Value.bool hw44))))) (v := .bool (decide (s37 < 4))) (by exact E.lss (k := .i64) (a := s37) (b := 4) (AF_ev rfl tp) rfl) ?_
            refine RW.soft Wd.a (v := .bool (decide (s37 < 4))) (by exact E.pickT (AF_ev rfl (up rfl (up rfl (Eq.trans tp (congrArg Value.bool hw44))))) (AF_ev rfl tp)) ?_
            refine RW.nil ?_
            refine Th.n ?_
            have hst := hst.take (.there (.there .here))
            have hst := hst.take (.there (.there .here))
            have hst := hst.take (.there (.there .here))
            exact ⟨true, true, (decide (s37 < 4)), hF, up rfl (up rfl (up rfl (up rfl (up rfl (up rfl (up rfl (up rfl hs0))))))), up rfl (up rfl (up rfl (up rfl (up rfl (up rfl (up rfl (up rfl hs1))))))), up rfl (up rfl (up rfl (up rfl (up rfl (up rfl (up rfl (up rfl hs2))))))), up rfl (up rfl (up rfl (up rfl (up rfl (up rfl (up rfl (up rfl hs6))))))), up rfl (up rfl (up rfl (up rfl (up rfl (up rfl (up rfl (up rfl hs8))))))), up rfl (up rfl (up rfl (up rfl (up rfl (up rfl (up rfl (up rfl hs9))))))), up rfl (up rfl (up rfl (up rfl (up rfl (up rfl (up rfl (up rfl hs11))))))), up rfl (up rfl (up rfl (up rfl (up rfl (up rfl (up rfl (up rfl hs15))))))), up rfl (up rfl (up rfl (up rfl (up rfl (up rfl (up rfl tp)))))), up rfl (up rfl (up rfl (up rfl (up rfl (up rfl tp))))), up rfl (up rfl (up rfl (up rfl (up rfl tp)))), up rfl (up rfl (up rfl (up rfl (Eq.trans tp (congrArg Value.bool hw44))))), up rfl (up rfl (up rfl (Eq.trans tp (congrArg Value.bool hw44)))), tp, hst⟩
          · have hF := cf hw44 hF
            have hw44_ := hw44
            try simp only [decide_eq_false_iff_not, Int.not_lt, Int.not_le, gt_iff_lt, ge_iff_le] at hw44_
            refine RW.pass (by exact Wd.no (x := 93) (b := false) rfl (AF_ev rfl (Eq.trans tp (congrArg Value.bool hw44))) rfl) ?_
            refine RW.pass (by exact Wd.no (x := 93) (b := false) rfl (AF_ev rfl (up rfl (Eq.trans tp (congrArg Value.bool hw44)))) rfl) ?_
            refine RW.soft Wd.a (v := .bool false) (by exact E.pickF (AF_ev rfl (up rfl (up rfl (Eq.trans tp (congrArg Value.bool hw44))))) rfl) ?_
            refine RW.nil ?_
            refine Th.n ?_
            have hst := hst.take (.there (.there .here))
            have hst := hst.take (.there (.there .here))
            have hst := hst.take (.there (.there .here))
            exact ⟨false, false, false, hF, up rfl (up rfl (up rfl (up rfl (up rfl (up rfl (up rfl (up rfl hs0))))))), up rfl (up rfl (up rfl (up rfl (up rfl (up rfl (up rfl (up rfl hs1))))))), up rfl (up rfl (up rfl (up rfl (up rfl (up rfl (up rfl (up rfl hs2))))))), up rfl (up rfl (up rfl (up rfl (up rfl (up rfl (up rfl (up rfl hs6))))))), up rfl (up rfl (up rfl (up rfl (up rfl (up rfl (up rfl (up rfl hs8))))))), up rfl (up rfl (up rfl (up rfl (up rfl (up rfl (up rfl (up rfl hs9))))))), up rfl (up rfl (up rfl (up rfl (up rfl (up rfl (up rfl (up rfl hs11))))))), up rfl (up rfl (up rfl (up rfl (up rfl (up rfl (up rfl (up rfl hs15))))))), up rfl (up rfl (up rfl (up rfl (up rfl (up rfl (up rfl tp)))))), up rfl (up rfl (up rfl (up rfl (up rfl (up rfl tp))))), up rfl (up rfl (up rfl (up rfl (up rfl tp)))), up rfl (up rfl (up rfl (up rfl (Eq.trans tp (congrArg Value.bool hw44))))), up rfl (up rfl (up rfl (Eq.trans tp (congrArg Value.bool hw44)))), tp, hst⟩
        rintro τ w ⟨j41, j42, j43, hF, hs0, hs1, hs2, hs6, hs8, hs9, hs11, hs15, hs89, hs90, hs91, hs92, hs93, hs96, hst⟩
        unfold EnvBack_j5 at hF
        refine CW.cond (AF_ev rfl hs96) (fun hc45 => ?_) (fun hc45 => ?_)
        · have hF := ct hc45 hF
          refine CW.skip ?_
          refine Th.n ?_
          refine CW.seq ?_
          refine CW.block ?_
          refine CW.seq ?_
          refine CW.region ?_
          refine RW.soft Wd.a (v := .pointer (some ⟨b3, 0, none⟩)) (by exact E.move (AF_ev rfl hs8)) ?_
          refine RW.soft Wd.a (v := .int .i64 r15.1) (by exact E.move (AF_ev rfl (up rfl hs9))) ?_
          refine RW.soft Wd.a (v := .slice (some ⟨b12, o13, none⟩) n_t c_t) (by exact E.move (AF_ev rfl (up rfl (up rfl hs0)))) ?_
          refine RW.soft Wd.a (v := .int .i64 s37) (by exact E.move (AF_ev rfl (up rfl (up rfl (up rfl hs15))))) ?_
          obtain ⟨hg46, hF⟩ := pl hF
          refine RW.soft Wd.a (v := .pointer (some ⟨b12, o13 + ((s37).toNat) * 32, none⟩)) (by exact E.indexAddr (b := b12) (o := o13) (l := n_t) (c := c_t) (i := s37) Try.underlying48 sz34 (AF_ev rfl (up rfl tp)) (AF_ev rfl tp) (by omega) (by omega) (by omega)) ?_
          obtain ⟨a47, h_a47, hF⟩ := lp hF
          have hl_a47 : a47.length = 32 := by rw [h_a47]; exact sl_len rfl (by omega)
          refine RW.soft Wd.a (v := .agg ((a47.map bu8)).toArray) (by exact E.loadN (b := b12) (o := o13 + ((s37).toNat) * 32) (cs := (a47.map bu8)) Try.underlying34 rfl sz34 (AF_ev rfl tp) ((List.length_map _).trans hl_a47) (by have h_ := Src.cellsFromZ (r := ((s37).toNat) * 32) (ys := (a47.map bu8)) ((hS_t _ _ (hst.take .here))) (by rw [h_a47]; exact subF (r := ((s37).toNat) * 32)); simpa using h_)) ?_
          obtain ⟨r48, h_r48, hF⟩ := lp hF
          have hst := hst.take (.there .here)
          refine RW.hard Wd.a ?_
          refine H.call0 Try.func21 nm21 rfl (map3 (AF_ev rfl (up rfl (up rfl (up rfl (up rfl (up rfl tp)))))) (AF_ev rfl (up rfl (up rfl (up rfl (up rfl tp))))) (AF_ev rfl tp)) (Calls.mono (Rotate_B r15.1 (by omega) a47 hl_a47 r48 h_r48 hst) ?_)
          rintro _ w ⟨rfl, h1q49, h2q49, hst⟩
          refine ⟨_, rfl, ?_⟩
          show RW _ _ _ _ _ _ _
          refine RW.fin (fun τ => τ 0 = .slice (some ⟨b12, o13, none⟩) n_t c_t ∧ τ 1 = .slice X_o o.length c_o ∧ τ 2 = .slice X_A' A'.length c_A' ∧ τ 6 = .bool s36 ∧ τ 8 = .pointer (some ⟨b3, 0, none⟩) ∧ τ 9 = .int .i64 r15.1 ∧ τ 11 = .slice Xq20_0 r19.1.length cq20_0 ∧ τ 15 = .int .i64 s37 ∧ τ 96 = .bool true) ⟨up rfl (up rfl (up rfl (up rfl (up rfl (up rfl (up rfl hs0)))))), up rfl (up rfl (up rfl (up rfl (up rfl (up rfl (up rfl hs1)))))), up rfl (up rfl (up rfl (up rfl (up rfl (up rfl (up rfl hs2)))))), up rfl (up rfl (up rfl (up rfl (up rfl (up rfl (up rfl hs6)))))), up rfl (up rfl (up rfl (up rfl (up rfl (up rfl (up rfl hs8)))))), up rfl (up rfl (up rfl (up rfl (up rfl (up rfl (up rfl hs9)))))), up rfl (up rfl (up rfl (up rfl (up rfl (up rfl (up rfl hs11)))))), up rfl (up rfl (up rfl (up rfl (up rfl (up rfl (up rfl hs15)))))), up rfl (up rfl (up rfl (up rfl (up rfl (up rfl (up rfl (Eq.trans hs96 (congrArg Value.bool hc45))))))))⟩ ?_
          rintro τ ⟨hs0, hs1, hs2, hs6, hs8, hs9, hs11, hs15, hs96⟩
          refine CW.seq ?_
          refine CW.region ?_
          refine RW.soft Wd.a (v := .pointer (some ⟨b3, 0, none⟩)) (by exact E.move (AF_ev rfl hs8)) ?_
          refine RW.soft Wd.a (v := .slice Xq20_0 r19.1.length cq20_0) (by exact E.move (AF_ev rfl (up rfl hs11))) ?_
          refine RW.soft Wd.a (v := .slice X_A' A'.length c_A') (by exact E.move (AF_ev rfl (up rfl (up rfl hs2)))) ?_
          obtain ⟨hg50, hF⟩ := pl hF
          obtain ⟨r51, h_r51, hF⟩ := bd hF
          have hst := hst.take (.there .here)
          have hst := hst.take (.there (.there .here))
          have hst := St.join (l := [SL.Own 5 1 (.slice Xq20_0 r19.1.length cq20_0) r19.1.length (r19.1.map bu8), A]) hst
          have hst := hst.take (.there .here)
          refine RW.hard Wd.a ?_
          refine H.call0 Try.func23 nm23 rfl (map3 (AF_ev rfl (up rfl (up rfl tp))) (AF_ev rfl (up rfl tp)) (AF_ev rfl tp)) (Calls.mono (Rewrap_C (A := (all [SL.Own 5 1 (.slice Xq20_0 r19.1.length cq20_0) r19.1.length (r19.1.map bu8), A])) r48.2.2 r19.1 (by first | omega | (simp; done)) (fun w H s => by have s := (show St _ _ (SL.Own 5 1 (.slice Xq20_0 r19.1.length cq20_0) r19.1.length (r19.1.map bu8) :: A :: H) from St.split s); exact (Own.src (s.take .here))) A' (by first | omega | (simp; done)) (fun w H s => by have s := (show St _ _ (SL.Own 5 1 (.slice Xq20_0 r19.1.length cq20_0) r19.1.length (r19.1.map bu8) :: A :: H) from St.split s); exact (hS_A' _ _ (s.take (.there .here)))) r51 h_r51 hst) ?_)
          rintro _ w ⟨Xq52_0, cq52_0, rfl, hm_q52_0, hr_q52_1, hr_q52_2, hst⟩
          have hst := (show St p w (SL.Own 5 1 (.slice Xq20_0 r19.1.length cq20_0) r19.1.length (r19.1.map bu8) :: A :: SL.Own 5 1 (.slice Xq52_0 r51.1.length cq52_0) r51.1.length (r51.1.map bu8) :: KeysB 103 b3 r51.2.2.2 :: _) from (hst.take (.there (.there .here))).split)
          refine ⟨_, rfl, ?_⟩
          show RW _ _ _ _ _ _ _
          refine RW.soft Wd.a (v := .tuple #[.slice Xq52_0 r51.1.length cq52_0, .int .i64 r51.2.1, .int .i64 r51.2.2.1]) (by exact E.move (AF_ev rfl tp)) ?_
          refine RW.soft Wd.a (v := .slice Xq52_0 r51.1.length cq52_0) (by exact E.extract (vs := #[.slice Xq52_0 r51.1.length cq52_0, .int .i64 r51.2.1, .int .i64 r51.2.2.1]) (AF_ev rfl tp) rfl) ?_
          refine RW.soft Wd.a (v := .int .i64 r51.2.1) (by exact E.extract (vs := #[.slice Xq52_0 r51.1.length cq52_0, .int .i64 r51.2.1, .int .i64 r51.2.2.1]) (AF_ev rfl (up rfl tp)) rfl) ?_
          refine RW.soft Wd.a (v := .int .i64 r51.2.2.1) (by exact E.extract (vs := #[.slice Xq52_0 r51.1.length cq52_0, .int .i64 r51.2.1, .int .i64 r51.2.2.1]) (AF_ev rfl (up rfl (up rfl tp))) rfl) ?_
          refine RW.soft Wd.a (v := .slice Xq52_0 r51.1.length cq52_0) (by exact E.assign (AF_ev rfl (up rfl (up rfl tp)))) ?_
          refine RW.soft Wd.a (v := .int .i64 r51.2.1) (by exact E.assign (AF_ev rfl (up rfl (up rfl tp)))) ?_
          refine RW.soft Wd.a (v := .int .i64 r51.2.2.1) (by exact E.assign (AF_ev rfl (up rfl (up rfl tp)))) ?_
          refine RW.fin (fun τ => τ 0 = .slice (some ⟨b12, o13, none⟩) n_t c_t ∧ τ 1 = .slice X_o o.length c_o ∧ τ 2 = .slice X_A' A'.length c_A' ∧ τ 6 = .bool s36 ∧ τ 8 = .pointer (some ⟨b3, 0, none⟩) ∧ τ 9 = .int .i64 r15.1 ∧ τ 11 = .slice Xq20_0 r19.1.length cq20_0 ∧ τ 15 = .int .i64 s37 ∧ τ 16 = .slice Xq52_0 r51.1.length cq52_0 ∧ τ 17 = .int .i64 r51.2.1 ∧ τ 18 = .int .i64 r51.2.2.1 ∧ τ 96 = .bool true) ⟨up rfl (up rfl (up rfl (up rfl (up rfl (up rfl (up rfl (up rfl (up rfl (up rfl (up rfl hs0)))))))))), up rfl (up rfl (up rfl (up rfl (up rfl (up rfl (up rfl (up rfl (up rfl (up rfl (up rfl hs1)))))))))), up rfl (up rfl (up rfl (up rfl (up rfl (up rfl (up rfl (up rfl (up rfl (up rfl (up rfl hs2)))))))))), up rfl (up rfl (up rfl (up rfl (up rfl (up rfl (up rfl (up rfl (up rfl (up rfl (up rfl hs6)))))))))), up rfl (up rfl (up rfl (up rfl (up rfl (up rfl (up rfl (up rfl (up rfl (up rfl (up rfl hs8)))))))))), up rfl (up rfl (up rfl (up rfl (up rfl (up rfl (up rfl (up rfl (up rfl (up rfl (up rfl hs9)))))))))), up rfl (up rfl (up rfl (up rfl (up rfl (up rfl (up rfl (up rfl (up rfl (up rfl (up rfl hs11)))))))))), up rfl (up rfl (up rfl (up rfl (up rfl (up rfl (up rfl (up rfl (up rfl (up rfl (up rfl hs15)))))))))), up rfl (up rfl tp), up rfl tp, tp, up rfl (up rfl (up rfl (up rfl (up rfl (up rfl (up rfl (up rfl (up rfl (up rfl (up rfl hs96))))))))))⟩ ?_
          rintro τ ⟨hs0, hs1, hs2, hs6, hs8, hs9, hs11, hs15, hs16, hs17, hs18, hs96⟩
          refine CW.seq ?_
          refine CW.region ?_
          refine RW.soft Wd.a (v := .pointer (some ⟨b3, 0, none⟩)) (by exact E.move (AF_ev rfl hs8)) ?_
          refine RW.soft Wd.a (v := .slice Xq52_0 r51.1.length cq52_0) (by exact E.move (AF_ev rfl (up rfl hs16))) ?_
          refine RW.soft Wd.a (v := .slice X_A' A'.length c_A') (by exact E.move (AF_ev rfl (up rfl (up rfl hs2)))) ?_
          obtain ⟨hg53, hF⟩ := pl hF
          obtain ⟨r54, h_r54, hF⟩ := bd hF
          have hst := hst.take (.there .here)
          have hst := hst.take (.there (.there .here))
          have hst := St.join (l := [SL.Own 5 1 (.slice Xq52_0 r51.1.length cq52_0) r51.1.length (r51.1.map bu8), A]) hst
          have hst := hst.take (.there (.there .here))
          refine RW.hard Wd.a ?_
          refine H.call0 Try.func20 nm20 rfl (map3 (AF_ev rfl (up rfl (up rfl tp))) (AF_ev rfl (up rfl tp)) (AF_ev rfl tp)) (Calls.mono (Decrypt_C (A := (all [SL.Own 5 1 (.slice Xq52_0 r51.1.length cq52_0) r51.1.length (r51.1.map bu8), A])) r51.2.2.2 r51.1 (by first | omega | (simp; done)) (fun w H s => by have s := (show St _ _ (SL.Own 5 1 (.slice Xq52_0 r51.1.length cq52_0) r51.1.length (r51.1.map bu8) :: A :: H) from St.split s); exact (Own.src (s.take .here))) A' (by first | omega | (simp; done)) (fun w H s => by have s := (show St _ _ (SL.Own 5 1 (.slice Xq52_0 r51.1.length cq52_0) r51.1.length (r51.1.map bu8) :: A :: H) from St.split s); exact (hS_A' _ _ (s.take (.there .here)))) r54 h_r54 hst) ?_)
          rintro _ w ⟨Xq55_0, cq55_0, rfl, hm_q55_0, hr_q55_1, hst⟩
          have hst := (show St p w (SL.Own 5 1 (.slice Xq52_0 r51.1.length cq52_0) r51.1.length (r51.1.map bu8) :: A :: SL.Own 5 1 (.slice Xq55_0 r54.1.length cq55_0) r54.1.length (r54.1.map bu8) :: KeysB 103 b3 r54.2.2 :: _) from (hst.take (.there (.there .here))).split)
          refine ⟨_, rfl, ?_⟩
          show RW _ _ _ _ _ _ _
          refine RW.soft Wd.a (v := .tuple #[.slice Xq55_0 r54.1.length cq55_0, .int .i64 r54.2.1]) (by exact E.move (AF_ev rfl tp)) ?_
          refine RW.soft Wd.a (v := .slice Xq55_0 r54.1.length cq55_0) (by exact E.extract (vs := #[.slice Xq55_0 r54.1.length cq55_0, .int .i64 r54.2.1]) (AF_ev rfl tp) rfl) ?_
          refine RW.soft Wd.a (v := .int .i64 r54.2.1) (by exact E.extract (vs := #[.slice Xq55_0 r54.1.length cq55_0, .int .i64 r54.2.1]) (AF_ev rfl (up rfl tp)) rfl) ?_
          refine RW.soft Wd.a (v := .slice Xq55_0 r54.1.length cq55_0) (by exact E.assign (AF_ev rfl (up rfl tp))) ?_
          refine RW.soft Wd.a (v := .int .i64 r54.2.1) (by exact E.assign (AF_ev rfl (up rfl tp))) ?_
          refine RW.fin (fun τ => τ 0 = .slice (some ⟨b12, o13, none⟩) n_t c_t ∧ τ 1 = .slice X_o o.length c_o ∧ τ 2 = .slice X_A' A'.length c_A' ∧ τ 6 = .bool s36 ∧ τ 8 = .pointer (some ⟨b3, 0, none⟩) ∧ τ 9 = .int .i64 r15.1 ∧ τ 11 = .slice Xq20_0 r19.1.length cq20_0 ∧ τ 15 = .int .i64 s37 ∧ τ 16 = .slice Xq52_0 r51.1.length cq52_0 ∧ τ 17 = .int .i64 r51.2.1 ∧ τ 18 = .int .i64 r51.2.2.1 ∧ τ 19 = .slice Xq55_0 r54.1.length cq55_0 ∧ τ 20 = .int .i64 r54.2.1 ∧ τ 96 = .bool true) ⟨up rfl (up rfl (up rfl (up rfl (up rfl (up rfl (up rfl (up rfl (up rfl hs0)))))))), up rfl (up rfl (up rfl (up rfl (up rfl (up rfl (up rfl (up rfl (up rfl hs1)))))))), up rfl (up rfl (up rfl (up rfl (up rfl (up rfl (up rfl (up rfl (up rfl hs2)))))))), up rfl (up rfl (up rfl (up rfl (up rfl (up rfl (up rfl (up rfl (up rfl hs6)))))))), up rfl (up rfl (up rfl (up rfl (up rfl (up rfl (up rfl (up rfl (up rfl hs8)))))))), up rfl (up rfl (up rfl (up rfl (up rfl (up rfl (up rfl (up rfl (up rfl hs9)))))))), up rfl (up rfl (up rfl (up rfl (up rfl (up rfl (up rfl (up rfl (up rfl hs11)))))))), up rfl (up rfl (up rfl (up rfl (up rfl (up rfl (up rfl (up rfl (up rfl hs15)))))))), up rfl (up rfl (up rfl (up rfl (up rfl (up rfl (up rfl (up rfl (up rfl hs16)))))))), up rfl (up rfl (up rfl (up rfl (up rfl (up rfl (up rfl (up rfl (up rfl hs17)))))))), up rfl (up rfl (up rfl (up rfl (up rfl (up rfl (up rfl (up rfl (up rfl hs18)))))))), up rfl tp, tp, up rfl (up rfl (up rfl (up rfl (up rfl (up rfl (up rfl (up rfl (up rfl hs96))))))))⟩ ?_
          rintro τ ⟨hs0, hs1, hs2, hs6, hs8, hs9, hs11, hs15, hs16, hs17, hs18, hs19, hs20, hs96⟩
          refine CW.seq ?_
          refine CW.region ?_
          refine RW.soft Wd.a (v := .pointer (some ⟨b3, 0, none⟩)) (by exact E.move (AF_ev rfl hs8)) ?_
          refine RW.soft Wd.a (v := .slice Xq20_0 r19.1.length cq20_0) (by exact E.move (AF_ev rfl (up rfl hs11))) ?_
          refine RW.soft Wd.a (v := .slice X_A' A'.length c_A') (by exact E.move (AF_ev rfl (up rfl (up rfl hs2)))) ?_
          obtain ⟨hg56, hF⟩ := pl hF
          obtain ⟨r57, h_r57, hF⟩ := bd hF
          have hst := hst.take (.there .here)
          have hst := hst.take (.there (.there (.there (.there .here))))
          have hst := St.join (l := [SL.Own 5 1 (.slice Xq20_0 r19.1.length cq20_0) r19.1.length (r19.1.map bu8), A]) hst
          have hst := hst.take (.there (.there (.there .here)))
          refine RW.hard Wd.a ?_
          refine H.call0 Try.func20 nm20 rfl (map3 (AF_ev rfl (up rfl (up rfl tp))) (AF_ev rfl (up rfl tp)) (AF_ev rfl tp)) (Calls.mono (Decrypt_C (A := (all [SL.Own 5 1 (.slice Xq20_0 r19.1.length cq20_0) r19.1.length (r19.1.map bu8), A])) r54.2.2 r19.1 (by first | omega | (simp; done)) (fun w H s => by have s := (show St _ _ (SL.Own 5 1 (.slice Xq20_0 r19.1.length cq20_0) r19.1.length (r19.1.map bu8) :: A :: H) from St.split s); exact (Own.src (s.take .here))) A' (by first | omega | (simp; done)) (fun w H s => by have s := (show St _ _ (SL.Own 5 1 (.slice Xq20_0 r19.1.length cq20_0) r19.1.length (r19.1.map bu8) :: A :: H) from St.split s); exact (hS_A' _ _ (s.take (.there .here)))) r57 h_r57 hst) ?_)
          rintro _ w ⟨Xq58_0, cq58_0, rfl, hm_q58_0, hr_q58_1, hst⟩
          have hst := (show St p w (SL.Own 5 1 (.slice Xq20_0 r19.1.length cq20_0) r19.1.length (r19.1.map bu8) :: A :: SL.Own 5 1 (.slice Xq58_0 r57.1.length cq58_0) r57.1.length (r57.1.map bu8) :: KeysB 103 b3 r57.2.2 :: _) from (hst.take (.there (.there .here))).split)
          refine ⟨_, rfl, ?_⟩
          show RW _ _ _ _ _ _ _
          refine RW.soft Wd.a (v := .tuple #[.slice Xq58_0 r57.1.length cq58_0, .int .i64 r57.2.1]) (by exact E.move (AF_ev rfl tp)) ?_
          refine RW.soft Wd.a (v := .slice Xq58_0 r57.1.length cq58_0) (by exact E.extract (vs := #[.slice Xq58_0 r57.1.length cq58_0, .int .i64 r57.2.1]) (AF_ev rfl tp) rfl) ?_
          refine RW.soft Wd.a (v := .int .i64 r57.2.1) (by exact E.extract (vs := #[.slice Xq58_0 r57.1.length cq58_0, .int .i64 r57.2.1]) (AF_ev rfl (up rfl tp)) rfl) ?_
          refine RW.soft Wd.a (v := .slice Xq58_0 r57.1.length cq58_0) (by exact E.assign (AF_ev rfl (up rfl tp))) ?_
          refine RW.soft Wd.a (v := .int .i64 r57.2.1) (by exact E.assign (AF_ev rfl (up rfl tp))) ?_
          refine RW.fin (fun τ => τ 0 = .slice (some ⟨b12, o13, none⟩) n_t c_t ∧ τ 1 = .slice X_o o.length c_o ∧ τ 2 = .slice X_A' A'.length c_A' ∧ τ 6 = .bool s36 ∧ τ 8 = .pointer (some ⟨b3, 0, none⟩) ∧ τ 9 = .int .i64 r15.1 ∧ τ 11 = .slice Xq20_0 r19.1.length cq20_0 ∧ τ 15 = .int .i64 s37 ∧ τ 16 = .slice Xq52_0 r51.1.length cq52_0 ∧ τ 17 = .int .i64 r51.2.1 ∧ τ 18 = .int .i64 r51.2.2.1 ∧ τ 19 = .slice Xq55_0 r54.1.length cq55_0 ∧ τ 20 = .int .i64 r54.2.1 ∧ τ 21 = .slice Xq58_0 r57.1.length cq58_0 ∧ τ 22 = .int .i64 r57.2.1 ∧ τ 96 = .bool true) ⟨up rfl (up rfl (up rfl (up rfl (up rfl (up rfl (up rfl (up rfl (up rfl hs0)))))))), up rfl (up rfl (up rfl (up rfl (up rfl (up rfl (up rfl (up rfl (up rfl hs1)))))))), up rfl (up rfl (up rfl (up rfl (up rfl (up rfl (up rfl (up rfl (up rfl hs2)))))))), up rfl (up rfl (up rfl (up rfl (up rfl (up rfl (up rfl (up rfl (up rfl hs6)))))))), up rfl (up rfl (up rfl (up rfl (up rfl (up rfl (up rfl (up rfl (up rfl hs8)))))))), up rfl (up rfl (up rfl (up rfl (up rfl (up rfl (up rfl (up rfl (up rfl hs9)))))))), up rfl (up rfl (up rfl (up rfl (up rfl (up rfl (up rfl (up rfl (up rfl hs11)))))))), up rfl (up rfl (up rfl (up rfl (up rfl (up rfl (up rfl (up rfl (up rfl hs15)))))))), up rfl (up rfl (up rfl (up rfl (up rfl (up rfl (up rfl (up rfl (up rfl hs16)))))))), up rfl (up rfl (up rfl (up rfl (up rfl (up rfl (up rfl (up rfl (up rfl hs17)))))))), up rfl (up rfl (up rfl (up rfl (up rfl (up rfl (up rfl (up rfl (up rfl hs18)))))))), up rfl (up rfl (up rfl (up rfl (up rfl (up rfl (up rfl (up rfl (up rfl hs19)))))))), up rfl (up rfl (up rfl (up rfl (up rfl (up rfl (up rfl (up rfl (up rfl hs20)))))))), up rfl tp, tp, up rfl (up rfl (up rfl (up rfl (up rfl (up rfl (up rfl (up rfl (up rfl hs96))))))))⟩ ?_
          rintro τ ⟨hs0, hs1, hs2, hs6, hs8, hs9, hs11, hs15, hs16, hs17, hs18, hs19, hs20, hs21, hs22, hs96⟩
          refine CW.seqJ (fun τ w => ∃ (j59 : Bool) (j60 : Bool) (j61 : Bool) (j62 : Bool) (j63 : Bool) (j64 : Bool) (j65 : Bool) (j66 : Bool) (j67 : Bool) (j68 : Bool) (j69 : Bool), EnvBack_j6 n_t t o A' r15 r19 s36 s37 r57 (fun (s36_ : Bool) (s37_ : Int) (ks38_ : RKB) => EnvBack_l4 n_t t o A' r15 r19 k40 s36_ s37_ ks38_) j59 j60 j61 j62 j63 j64 j65 j66 j67 j68 j69 = some r ∧ τ 0 = .slice (some ⟨b12, o13, none⟩) n_t c_t ∧ τ 1 = .slice X_o o.length c_o ∧ τ 2 = .slice X_A' A'.length c_A' ∧ τ 6 = .bool s36 ∧ τ 8 = .pointer (some ⟨b3, 0, none⟩) ∧ τ 9 = .int .i64 r15.1 ∧ τ 11 = .slice Xq20_0 r19.1.length cq20_0 ∧ τ 15 = .int .i64 s37 ∧ τ 16 = .slice Xq52_0 r51.1.length cq52_0 ∧ τ 17 = .int .i64 r51.2.1 ∧ τ 18 = .int .i64 r51.2.2.1 ∧ τ 19 = .slice Xq55_0 r54.1.length cq55_0 ∧ τ 20 = .int .i64 r54.2.1 ∧ τ 21 = .slice Xq58_0 r57.1.length cq58_0 ∧ τ 22 = .int .i64 r57.2.1 ∧ τ 96 = .bool true ∧ τ 128 = .int .i64 r51.2.2.1 ∧ τ 129 = .bool j59 ∧ τ 130 = .bool j60 ∧ τ 135 = .bool j61 ∧ τ 136 = .bool j62 ∧ τ 139 = .bool j63 ∧ τ 140 = .bool j64 ∧ τ 143 = .bool j65 ∧ τ 144 = .bool j66 ∧ τ 150 = .bool j67 ∧ τ 151 = .bool j68 ∧ τ 157 = .bool j69 ∧ St p w (A :: KeysB 103 b3 r57.2.2 :: SL.Own 5 1 (.slice Xq20_0 r19.1.length cq20_0) r19.1.length (r19.1.map bu8) :: SL.Own 5 1 (.slice Xq58_0 r57.1.length cq58_0) r57.1.length (r57.1.map bu8) :: SL.Own 5 1 (.slice Xq52_0 r51.1.length cq52_0) r51.1.length (r51.1.map bu8) :: SL.Own 5 1 (.slice Xq55_0 r54.1.length cq55_0) r54.1.length (r54.1.map bu8) :: R)) ?_ ?_
          · skip
            refine CW.region ?_
            refine RW.soft Wd.a (v := .int .i64 r51.2.2.1) (by exact E.move (AF_ev rfl hs18)) ?_
            refine RW.soft Wd.a (v := .bool (r51.2.2.1 != 0)) (by exact E.neq (k := .i64) (a := r51.2.2.1) (b := 0) (AF_ev rfl tp) rfl) ?_
            refine RW.soft Wd.a (v := .bool (r51.2.2.1 != 0)) (by exact E.move (AF_ev rfl tp)) ?_
            refine Or.elim (Bool.eq_false_or_eq_true (r51.2.2.1 != 0)) (fun hw70 => ?_) (fun hw70 => ?_)
            · have hF := ct hw70 hF
              have hw70_ := hw70
              try simp only [bne_iff_ne, ne_eq] at hw70_
              refine RW.pass (by exact Wd.no (x := 130) (b := true) rfl (AF_ev rfl (Eq.trans tp (congrArg Value.bool hw70))) rfl) ?_
              refine RW.pass (by exact Wd.no (x := 130) (b := true) rfl (AF_ev rfl (up rfl (Eq.trans tp (congrArg Value.bool hw70)))) rfl) ?_
              refine RW.pass (by exact Wd.no (x := 130) (b := true) rfl (AF_ev rfl (up rfl (up rfl (Eq.trans tp (congrArg Value.bool hw70))))) rfl) ?_
              refine RW.pass (by exact Wd.no (x := 130) (b := true) rfl (AF_ev rfl (up rfl (up rfl (up rfl (Eq.trans tp (congrArg Value.bool hw70)))))) rfl) ?_
              refine RW.soft Wd.a (v := .bool true) (by exact E.pickT (AF_ev rfl (up rfl (up rfl (up rfl (up rfl (Eq.trans tp (congrArg Value.bool hw70))))))) rfl) ?_
              refine RW.soft Wd.a (v := .bool true) (by exact E.move (AF_ev rfl tp)) ?_
              refine RW.pass (by exact Wd.no (x := 136) (b := true) rfl (AF_ev rfl tp) rfl) ?_
              refine RW.pass (by exact Wd.no (x := 136) (b := true) rfl (AF_ev rfl (up rfl tp)) rfl) ?_
              refine RW.soft Wd.a (v := .bool true) (by exact E.pickT (AF_ev rfl (up rfl (up rfl tp))) rfl) ?_
              refine RW.soft Wd.a (v := .bool true) (by exact E.move (AF_ev rfl tp)) ?_
              refine RW.pass (by exact Wd.no (x := 140) (b := true) rfl (AF_ev rfl tp) rfl) ?_
              refine RW.pass (by exact Wd.no (x := 140) (b := true) rfl (AF_ev rfl (up rfl tp)) rfl) ?_
              refine RW.soft Wd.a (v := .bool true) (by exact E.pickT (AF_ev rfl (up rfl (up rfl tp))) rfl) ?_
              refine RW.soft Wd.a (v := .bool true) (by exact E.move (AF_ev rfl tp)) ?_
              refine RW.pass (by exact Wd.no (x := 144) (b := true) rfl (AF_ev rfl tp) rfl) ?_
              refine RW.pass (by exact Wd.no (x := 144) (b := true) rfl (AF_ev rfl (up rfl tp)) rfl) ?_
              refine RW.pass (by exact Wd.no (x := 144) (b := true) rfl (AF_ev rfl (up rfl (up rfl tp))) rfl) ?_
              refine RW.pass (by exact Wd.no (x := 144) (b := true) rfl (AF_ev rfl (up rfl (up rfl (up rfl tp)))) rfl) ?_
              refine RW.pass (by exact Wd.no (x := 144) (b := true) rfl (AF_ev rfl (up rfl (up rfl (up rfl (up rfl tp))))) rfl) ?_
              refine RW.soft Wd.a (v := .bool true) (by exact E.pickT (AF_ev rfl (up rfl (up rfl (up rfl (up rfl (up rfl tp)))))) rfl) ?_
              refine RW.soft Wd.a (v := .bool true) (by exact E.move (AF_ev rfl tp)) ?_
              refine RW.pass (by exact Wd.no (x := 151) (b := true) rfl (AF_ev rfl tp) rfl) ?_
              refine RW.pass (by exact Wd.no (x := 151) (b := true) rfl (AF_ev rfl (up rfl tp)) rfl) ?_
              refine RW.pass (by exact Wd.no (x := 151) (b := true) rfl (AF_ev rfl (up rfl (up rfl tp))) rfl) ?_
              refine RW.pass (by exact Wd.no (x := 151) (b := true) rfl (AF_ev rfl (up rfl (up rfl (up rfl tp)))) rfl) ?_
              refine RW.pass (by exact Wd.no (x := 151) (b := true) rfl (AF_ev rfl (up rfl (up rfl (up rfl (up rfl tp))))) rfl) ?_
              refine RW.soft Wd.a (v := .bool true) (by exact E.pickT (AF_ev rfl (up rfl (up rfl (up rfl (up rfl (up rfl tp)))))) rfl) ?_
              refine RW.nil ?_
              refine Th.n ?_
              have hst := hst.take (.there (.there (.there (.there (.there .here)))))
              have hst := hst.take (.there (.there (.there (.there (.there .here)))))
              have hst := hst.take (.there (.there (.there (.there .here))))
              have hst := hst.take (.there (.there (.there .here)))
              have hst := hst.take (.there (.there (.there (.there (.there .here)))))
              have hst := hst.take (.there (.there (.there (.there (.there .here)))))
              exact ⟨true, true, true, true, true, true, true, true, true, true, true, hF, up rfl (up rfl (up rfl (up rfl (up rfl (up rfl (up rfl (up rfl (up rfl (up rfl (up rfl (up rfl (up rfl (up rfl (up rfl (up rfl (up rfl (up rfl (up rfl (up rfl (up rfl (up rfl (up rfl (up rfl (up rfl (up rfl (up rfl (up rfl (up rfl (up rfl hs0))))))))))))))))))))))))))))), up rfl (up rfl (up rfl (up rfl (up rfl (up rfl (up rfl (up rfl (up rfl (up rfl (up rfl (up rfl (up rfl (up rfl (up rfl (up rfl (up rfl (up rfl (up rfl (up rfl (up rfl (up rfl (up rfl (up rfl (up rfl (up rfl (up rfl (up rfl (up rfl (up rfl hs1))))))))))))))))))))))))))))), up rfl (up rfl (up rfl (up rfl (up rfl (up rfl (up rfl (up rfl (up rfl (up rfl (up rfl (up rfl (up rfl (up rfl (up rfl (up rfl (up rfl (up rfl (up rfl (up rfl (up rfl (up rfl (up rfl (up rfl (up rfl (up rfl (up rfl (up rfl (up rfl (up rfl hs2))))))))))))))))))))))))))))), up rfl (up rfl (up rfl (up rfl (up rfl (up rfl (up rfl (up rfl (up rfl (up rfl (up rfl (up rfl (up rfl (up rfl (up rfl (up rfl (up rfl (up rfl (up rfl (up rfl (up rfl (up rfl (up rfl (up rfl (up rfl (up rfl (up rfl (up rfl (up rfl (up rfl hs6))))))))))))))))))))))))))))), up rfl (up rfl (up rfl (up rfl (up rfl (up rfl (up rfl (up rfl (up rfl (up rfl (up rfl (up rfl (up rfl (up rfl (up rfl (up rfl (up rfl (up rfl (up rfl (up rfl (up rfl (up rfl (up rfl (up rfl (up rfl (up rfl (up rfl (up rfl (up rfl (up rfl hs8))))))))))))))))))))))))))))), up rfl (up rfl (up rfl (up rfl (up rfl (up rfl (up rfl (up rfl (up rfl (up rfl (up rfl (up rfl (up rfl (up rfl (up rfl (up rfl (up rfl (up rfl (up rfl (up rfl (up rfl (up rfl (up rfl (up rfl (up rfl (up rfl (up rfl (up rfl (up rfl (up rfl hs9))))))))))))))))))))))))))))), up rfl (up rfl (up rfl (up rfl (up rfl (up rfl (up rfl (up rfl (up rfl (up rfl (up rfl (up rfl (up rfl (up rfl (up rfl (up rfl (up rfl (up rfl (up rfl (up rfl (up rfl (up rfl (up rfl (up rfl (up rfl (up rfl (up rfl (up rfl (up rfl (up rfl hs11))))))))))))))))))))))))))))), up rfl (up rfl (up rfl (up rfl (up rfl (up rfl (up rfl (up rfl (up rfl (up rfl (up rfl (up rfl (up rfl (up rfl (up rfl (up rfl (up rfl (up rfl (up rfl (up rfl (up rfl (up rfl (up rfl (up rfl (up rfl (up rfl (up rfl (up rfl (up rfl (up rfl hs15))))))))))))))))))))))))))))), up rfl (up rfl (up rfl (up rfl (up rfl (up rfl (up rfl (up rfl (up rfl (up rfl (up rfl (up rfl (up rfl (up rfl (up rfl (up rfl (up rfl (up rfl (up rfl (up rfl (up rfl (up rfl (up rfl (up rfl (up rfl (up rfl (up rfl (up rfl (up rfl (up rfl hs16))))))))))))))))))))))))))))), up rfl (up rfl (up rfl (up rfl (up rfl (up rfl (up rfl (up rfl (up rfl (up rfl (up rfl (up rfl (up rfl (up rfl (up rfl (up rfl (up rfl (up rfl (up rfl (up rfl (up rfl (up rfl (up rfl (up rfl (up rfl (up rfl (up rfl (up rfl (up rfl (up rfl hs17))))))))))))))))))))))))))))), up rfl (up rfl (up rfl (up rfl (up rfl (up rfl (up rfl (up rfl (up rfl (up rfl (up rfl (up rfl (up rfl (up rfl (up rfl (up rfl (up rfl (up rfl (up rfl (up rfl (up rfl (up rfl (up rfl (up rfl (up rfl (up rfl (up rfl (up rfl (up rfl (up rfl hs18))))))))))))))))))))))))))))), up rfl (up rfl (up rfl (up rfl (up rfl (up rfl (up rfl (up rfl (up rfl (up rfl (up rfl (up rfl (up rfl (up rfl (up rfl (up rfl (up rfl (up rfl (up rfl (up rfl (up rfl (up rfl (up rfl (up rfl (up rfl (up rfl (up rfl (up rfl (up rfl (up rfl hs19))))))))))))))))))))))))))))), up rfl (up rfl (up rfl (up rfl (up rfl (up rfl (up rfl (up rfl (up rfl (up rfl (up rfl (up rfl (up rfl (up rfl (up rfl (up rfl (up rfl (up rfl (up rfl (up rfl (up rfl (up rfl (up rfl (up rfl (up rfl (up rfl (up rfl (up rfl (up rfl (up rfl hs20))))))))))))))))))))))))))))), up rfl (up rfl (up rfl (up rfl (up rfl (up rfl (up rfl (up rfl (up rfl (up rfl (up rfl (up rfl (up rfl (up rfl (up rfl (up rfl (up rfl (up rfl (up rfl (up rfl (up rfl (up rfl (up rfl (up rfl (up rfl (up rfl (up rfl (up rfl (up rfl (up rfl hs21))))))))))))))))))))))))))))), up rfl (up rfl (up rfl (up rfl (up rfl (up rfl (up rfl (up rfl (up rfl (up rfl (up rfl (up rfl (up rfl (up rfl (up rfl (up rfl (up rfl (up rfl (up rfl (up rfl (up rfl (up rfl (up rfl (up rfl (up rfl (up rfl (up rfl (up rfl (up rfl (up rfl hs22))))))))))))))))))))))))))))), up rfl (up rfl (up rfl (up rfl (up rfl (up rfl (up rfl (up rfl (up rfl (up rfl (up rfl (up rfl (up rfl (up rfl (up rfl (up rfl (up rfl (up rfl (up rfl (up rfl (up rfl (up rfl (up rfl (up rfl (up rfl (up rfl (up rfl (up rfl (up rfl (up rfl hs96))))))))))))))))))))))))))))), up rfl (up rfl (up rfl (up rfl (up rfl (up rfl (up rfl (up rfl (up rfl (up rfl (up rfl (up rfl (up rfl (up rfl (up rfl (up rfl (up rfl (up rfl (up rfl (up rfl (up rfl (up rfl (up rfl (up rfl (up rfl (up rfl (up rfl (up rfl (up rfl tp)))))))))))))))))))))))))))), up rfl (up rfl (up rfl (up rfl (up rfl (up rfl (up rfl (up rfl (up rfl (up rfl (up rfl (up rfl (up rfl (up rfl (up rfl (up rfl (up rfl (up rfl (up rfl (up rfl (up rfl (up rfl (up rfl (up rfl (up rfl (up rfl (up rfl (up rfl (Eq.trans tp (congrArg Value.bool hw70))))))))))))))))))))))))))))), up rfl (up rfl (up rfl (up rfl (up rfl (up rfl (up rfl (up rfl (up rfl (up rfl (up rfl (up rfl (up rfl (up rfl (up rfl (up rfl (up rfl (up rfl (up rfl (up rfl (up rfl (up rfl (up rfl (up rfl (up rfl (up rfl (up rfl (Eq.trans tp (congrArg Value.bool hw70)))))))))))))))))))))))))))), up rfl (up rfl (up rfl (up rfl (up rfl (up rfl (up rfl (up rfl (up rfl (up rfl (up rfl (up rfl (up rfl (up rfl (up rfl (up rfl (up rfl (up rfl (up rfl (up rfl (up rfl (up rfl tp))))))))))))))))))))), up rfl (up rfl (up rfl (up rfl (up rfl (up rfl (up rfl (up rfl (up rfl (up rfl (up rfl (up rfl (up rfl (up rfl (up rfl (up rfl (up rfl (up rfl (up rfl (up rfl (up rfl tp)))))))))))))))))))), up rfl (up rfl (up rfl (up rfl (up rfl (up rfl (up rfl (up rfl (up rfl (up rfl (up rfl (up rfl (up rfl (up rfl (up rfl (up rfl (up rfl (up rfl tp))))))))))))))))), up rfl (up rfl (up rfl (up rfl (up rfl (up rfl (up rfl (up rfl (up rfl (up rfl (up rfl (up rfl (up rfl (up rfl (up rfl (up rfl (up rfl tp)))))))))))))))), up rfl (up rfl (up rfl (up rfl (up rfl (up rfl (up rfl (up rfl (up rfl (up rfl (up rfl (up rfl (up rfl (up rfl tp))))))))))))), up rfl (up rfl (up rfl (up rfl (up rfl (up rfl (up rfl (up rfl (up rfl (up rfl (up rfl (up rfl (up rfl tp)))))))))))), up rfl (up rfl (up rfl (up rfl (up rfl (up rfl (up rfl tp)))))), up rfl (up rfl (up rfl (up rfl (up rfl (up rfl tp))))), tp, hst⟩
            · have hF := cf hw70 hF
              have hw70_ := hw70
              try simp only [bne_eq_false_iff_eq] at hw70_
              refine RW.soft (by exact Wd.yes (x := 130) rfl (AF_ev rfl (Eq.trans tp (congrArg Value.bool hw70)))) (v := .int .i64 r51.2.1) (by exact E.move (AF_ev rfl (up rfl (up rfl (up rfl hs17))))) ?_
              refine RW.soft (by exact Wd.yes (x := 130) rfl (AF_ev rfl (up rfl (Eq.trans tp (congrArg Value.bool hw70))))) (v := .int .i64 s37) (by exact E.move (AF_ev rfl (up rfl (up rfl (up rfl (up rfl hs15)))))) ?_
              refine RW.soft (by exact Wd.yes (x := 130) rfl (AF_ev rfl (up rfl (up rfl (Eq.trans tp (congrArg Value.bool hw70)))))) (v := .int .i64 (w64 (s37 + 1))) (by exact E.add (k := .i64) (a := s37) (b := 1) (AF_ev rfl tp) rfl rfl) ?_
              refine RW.soft (by exact Wd.yes (x := 130) rfl (AF_ev rfl (up rfl (up rfl (up rfl (Eq.trans tp (congrArg Value.bool hw70))))))) (v := .bool (r51.2.1 != (w64 (s37 + 1)))) (by exact E.neq (k := .i64) (a := r51.2.1) (b := w64 (s37 + 1)) (AF_ev rfl (up rfl (up rfl tp))) (AF_ev rfl tp)) ?_
              refine RW.soft Wd.a (v := .bool (r51.2.1 != (w64 (s37 + 1)))) (by exact E.pickF (AF_ev rfl (up rfl (up rfl (up rfl (up rfl (Eq.trans tp (congrArg Value.bool hw70))))))) (AF_ev rfl tp)) ?_
              refine RW.soft Wd.a (v := .bool (r51.2.1 != (w64 (s37 + 1)))) (by exact E.move (AF_ev rfl tp)) ?_
              refine Or.elim (Bool.eq_false_or_eq_true (r51.2.1 != (w64 (s37 + 1)))) (fun hw71 => ?_) (fun hw71 => ?_)
              · have hF := ct hw71 hF
                have hw71_ := hw71
                try simp only [bne_iff_ne, ne_eq] at hw71_
                refine RW.pass (by exact Wd.no (x := 136) (b := true) rfl (AF_ev rfl (Eq.trans tp (congrArg Value.bool hw71))) rfl) ?_
                refine RW.pass (by exact Wd.no (x := 136) (b := true) rfl (AF_ev rfl (up rfl (Eq.trans tp (congrArg Value.bool hw71)))) rfl) ?_
                refine RW.soft Wd.a (v := .bool true) (by exact E.pickT (AF_ev rfl (up rfl (up rfl (Eq.trans tp (congrArg Value.bool hw71))))) rfl) ?_
                refine RW.soft Wd.a (v := .bool true) (by exact E.move (AF_ev rfl tp)) ?_
                refine RW.pass (by exact Wd.no (x := 140) (b := true) rfl (AF_ev rfl tp) rfl) ?_
                refine RW.pass (by exact Wd.no (x := 140) (b := true) rfl (AF_ev rfl (up rfl tp)) rfl) ?_
                refine RW.soft Wd.a (v := .bool true) (by exact E.pickT (AF_ev rfl (up rfl (up rfl tp))) rfl) ?_
                refine RW.soft Wd.a (v := .bool true) (by exact E.move (AF_ev rfl tp)) ?_
                refine RW.pass (by exact Wd.no (x := 144) (b := true) rfl (AF_ev rfl tp) rfl) ?_
                refine RW.pass (by exact Wd.no (x := 144) (b := true) rfl (AF_ev rfl (up rfl tp)) rfl) ?_
                refine RW.pass (by exact Wd.no (x := 144) (b := true) rfl (AF_ev rfl (up rfl (up rfl tp))) rfl) ?_
                refine RW.pass (by exact Wd.no (x := 144) (b := true) rfl (AF_ev rfl (up rfl (up rfl (up rfl tp)))) rfl) ?_
                refine RW.pass (by exact Wd.no (x := 144) (b := true) rfl (AF_ev rfl (up rfl (up rfl (up rfl (up rfl tp))))) rfl) ?_
                refine RW.soft Wd.a (v := .bool true) (by exact E.pickT (AF_ev rfl (up rfl (up rfl (up rfl (up rfl (up rfl tp)))))) rfl) ?_
                refine RW.soft Wd.a (v := .bool true) (by exact E.move (AF_ev rfl tp)) ?_
                refine RW.pass (by exact Wd.no (x := 151) (b := true) rfl (AF_ev rfl tp) rfl) ?_
                refine RW.pass (by exact Wd.no (x := 151) (b := true) rfl (AF_ev rfl (up rfl tp)) rfl) ?_
                refine RW.pass (by exact Wd.no (x := 151) (b := true) rfl (AF_ev rfl (up rfl (up rfl tp))) rfl) ?_
                refine RW.pass (by exact Wd.no (x := 151) (b := true) rfl (AF_ev rfl (up rfl (up rfl (up rfl tp)))) rfl) ?_
                refine RW.pass (by exact Wd.no (x := 151) (b := true) rfl (AF_ev rfl (up rfl (up rfl (up rfl (up rfl tp))))) rfl) ?_
                refine RW.soft Wd.a (v := .bool true) (by exact E.pickT (AF_ev rfl (up rfl (up rfl (up rfl (up rfl (up rfl tp)))))) rfl) ?_
                refine RW.nil ?_
                refine Th.n ?_
                have hst := hst.take (.there (.there (.there (.there (.there .here)))))
                have hst := hst.take (.there (.there (.there (.there (.there .here)))))
                have hst := hst.take (.there (.there (.there (.there .here))))
                have hst := hst.take (.there (.there (.there .here)))
                have hst := hst.take (.there (.there (.there (.there (.there .here)))))
                have hst := hst.take (.there (.there (.there (.there (.there .here)))))
                exact ⟨false, false, true, true, true, true, true, true, true, true, true, hF, up rfl (up rfl (up rfl (up rfl (up rfl (up rfl (up rfl (up rfl (up rfl (up rfl (up rfl (up rfl (up rfl (up rfl (up rfl (up rfl (up rfl (up rfl (up rfl (up rfl (up rfl (up rfl (up rfl (up rfl (up rfl (up rfl (up rfl (up rfl (up rfl (up rfl hs0))))))))))))))))))))))))))))), up rfl (up rfl (up rfl (up rfl (up rfl (up rfl (up rfl (up rfl (up rfl (up rfl (up rfl (up rfl (up rfl (up rfl (up rfl (up rfl (up rfl (up rfl (up rfl (up rfl (up rfl (up rfl (up rfl (up rfl (up rfl (up rfl (up rfl (up rfl (up rfl (up rfl hs1))))))))))))))))))))))))))))), up rfl (up rfl (up rfl (up rfl (up rfl (up rfl (up rfl (up rfl (up rfl (up rfl (up rfl (up rfl (up rfl (up rfl (up rfl (up rfl (up rfl (up rfl (up rfl (up rfl (up rfl (up rfl (up rfl (up rfl (up rfl (up rfl (up rfl (up rfl (up rfl (up rfl hs2))))))))))))))))))))))))))))), up rfl (up rfl (up rfl (up rfl (up rfl (up rfl (up rfl (up rfl (up rfl (up rfl (up rfl (up rfl (up rfl (up rfl (up rfl (up rfl (up rfl (up rfl (up rfl (up rfl (up rfl (up rfl (up rfl (up rfl (up rfl (up rfl (up rfl (up rfl (up rfl (up rfl hs6))))))))))))))))))))))))))))), up rfl (up rfl (up rfl (up rfl (up rfl (up rfl (up rfl (up rfl (up rfl (up rfl (up rfl (up rfl (up rfl (up rfl (up rfl (up rfl (up rfl (up rfl (up rfl (up rfl (up rfl (up rfl (up rfl (up rfl (up rfl (up rfl (up rfl (up rfl (up rfl (up rfl hs8))))))))))))))))))))))))))))), up rfl (up rfl (up rfl (up rfl (up rfl (up rfl (up rfl (up rfl (up rfl (up rfl (up rfl (up rfl (up rfl (up rfl (up rfl (up rfl (up rfl (up rfl (up rfl (up rfl (up rfl (up rfl (up rfl (up rfl (up rfl (up rfl (up rfl (up rfl (up rfl (up rfl hs9))))))))))))))))))))))))))))), up rfl (up rfl (up rfl (up rfl (up rfl (up rfl (up rfl (up rfl (up rfl (up rfl (up rfl (up rfl (up rfl (up rfl (up rfl (up rfl (up rfl (up rfl (up rfl (up rfl (up rfl (up rfl (up rfl (up rfl (up rfl (up rfl (up rfl (up rfl (up rfl (up rfl hs11))))))))))))))))))))))))))))), up rfl (up rfl (up rfl (up rfl (up rfl (up rfl (up rfl (up rfl (up rfl (up rfl (up rfl (up rfl (up rfl (up rfl (up rfl (up rfl (up rfl (up rfl (up rfl (up rfl (up rfl (up rfl (up rfl (up rfl (up rfl (up rfl (up rfl (up rfl (up rfl (up rfl hs15))))))))))))))))))))))))))))), up rfl (up rfl (up rfl (up rfl (up rfl (up rfl (up rfl (up rfl (up rfl (up rfl (up rfl (up rfl (up rfl (up rfl (up rfl (up rfl (up rfl (up rfl (up rfl (up rfl (up rfl (up rfl (up rfl (up rfl (up rfl (up rfl (up rfl (up rfl (up rfl (up rfl hs16))))))))))))))))))))))))))))), up rfl (up rfl (up rfl (up rfl (up rfl (up rfl (up rfl (up rfl (up rfl (up rfl (up rfl (up rfl (up rfl (up rfl (up rfl (up rfl (up rfl (up rfl (up rfl (up rfl (up rfl (up rfl (up rfl (up rfl (up rfl (up rfl (up rfl (up rfl (up rfl (up rfl hs17))))))))))))))))))))))))))))), up rfl (up rfl (up rfl (up rfl (up rfl (up rfl (up rfl (up rfl (up rfl (up rfl (up rfl (up rfl (up rfl (up rfl (up rfl (up rfl (up rfl (up rfl (up rfl (up rfl (up rfl (up rfl (up rfl (up rfl (up rfl (up rfl (up rfl (up rfl (up rfl (up rfl hs18))))))))))))))))))))))))))))), up rfl (up rfl (up rfl (up rfl (up rfl (up rfl (up rfl (up rfl (up rfl (up rfl (up rfl (up rfl (up rfl (up rfl (up rfl (up rfl (up rfl (up rfl (up rfl (up rfl (up rfl (up rfl (up rfl (up rfl (up rfl (up rfl (up rfl (up rfl (up rfl (up rfl hs19))))))))))))))))))))))))))))), up rfl (up rfl (up rfl (up rfl (up rfl (up rfl (up rfl (up rfl (up rfl (up rfl (up rfl (up rfl (up rfl (up rfl (up rfl (up rfl (up rfl (up rfl (up rfl (up rfl (up rfl (up rfl (up rfl (up rfl (up rfl (up rfl (up rfl (up rfl (up rfl (up rfl hs20))))))))))))))))))))))))))))), up rfl (up rfl (up rfl (up rfl (up rfl (up rfl (up rfl (up rfl (up rfl (up rfl (up rfl (up rfl (up rfl (up rfl (up rfl (up rfl (up rfl (up rfl (up rfl (up rfl (up rfl (up rfl (up rfl (up rfl (up rfl (up rfl (up rfl (up rfl (up rfl (up rfl hs21))))))))))))))))))))))))))))), up rfl (up rfl (up rfl (up rfl (up rfl (up rfl (up rfl (up rfl (up rfl (up rfl (up rfl (up rfl (up rfl (up rfl (up rfl (up rfl (up rfl (up rfl (up rfl (up rfl (up rfl (up rfl (up rfl (up rfl (up rfl (up rfl (up rfl (up rfl (up rfl (up rfl hs22))))))))))))))))))))))))))))), up rfl (up rfl (up rfl (up rfl (up rfl (up rfl (up rfl (up rfl (up rfl (up rfl (up rfl (up rfl (up rfl (up rfl (up rfl (up rfl (up rfl (up rfl (up rfl (up rfl (up rfl (up rfl (up rfl (up rfl (up rfl (up rfl (up rfl (up rfl (up rfl (up rfl hs96))))))))))))))))))))))))))))), up rfl (up rfl (up rfl (up rfl (up rfl (up rfl (up rfl (up rfl (up rfl (up rfl (up rfl (up rfl (up rfl (up rfl (up rfl (up rfl (up rfl (up rfl (up rfl (up rfl (up rfl (up rfl (up rfl (up rfl (up rfl (up rfl (up rfl (up rfl (up rfl tp)))))))))))))))))))))))))))), up rfl (up rfl (up rfl (up rfl (up rfl (up rfl (up rfl (up rfl (up rfl (up rfl (up rfl (up rfl (up rfl (up rfl (up rfl (up rfl (up rfl (up rfl (up rfl (up rfl (up rfl (up rfl (up rfl (up rfl (up rfl (up rfl (up rfl (up rfl (Eq.trans tp (congrArg Value.bool hw70))))))))))))))))))))))))))))), up rfl (up rfl (up rfl (up rfl (up rfl (up rfl (up rfl (up rfl (up rfl (up rfl (up rfl (up rfl (up rfl (up rfl (up rfl (up rfl (up rfl (up rfl (up rfl (up rfl (up rfl (up rfl (up rfl (up rfl (up rfl (up rfl (up rfl (Eq.trans tp (congrArg Value.bool hw70)))))))))))))))))))))))))))), up rfl (up rfl (up rfl (up rfl (up rfl (up rfl (up rfl (up rfl (up rfl (up rfl (up rfl (up rfl (up rfl (up rfl (up rfl (up rfl (up rfl (up rfl (up rfl (up rfl (up rfl (up rfl (Eq.trans tp (congrArg Value.bool hw71))))))))))))))))))))))), up rfl (up rfl (up rfl (up rfl (up rfl (up rfl (up rfl (up rfl (up rfl (up rfl (up rfl (up rfl (up rfl (up rfl (up rfl (up rfl (up rfl (up rfl (up rfl (up rfl (up rfl (Eq.trans tp (congrArg Value.bool hw71)))))))))))))))))))))), up rfl (up rfl (up rfl (up rfl (up rfl (up rfl (up rfl (up rfl (up rfl (up rfl (up rfl (up rfl (up rfl (up rfl (up rfl (up rfl (up rfl (up rfl tp))))))))))))))))), up rfl (up rfl (up rfl (up rfl (up rfl (up rfl (up rfl (up rfl (up rfl (up rfl (up rfl (up rfl (up rfl (up rfl (up rfl (up rfl (up rfl tp)))))))))))))))), up rfl (up rfl (up rfl (up rfl (up rfl (up rfl (up rfl (up rfl (up rfl (up rfl (up rfl (up rfl (up rfl (up rfl tp))))))))))))), up rfl (up rfl (up rfl (up rfl (up rfl (up rfl (up rfl (up rfl (up rfl (up rfl (up rfl (up rfl (up rfl tp)))))))))))), up rfl (up rfl (up rfl (up rfl (up rfl (up rfl (up rfl tp)))))), up rfl (up rfl (up rfl (up rfl (up rfl (up rfl tp))))), tp, hst⟩
              · have hF := cf hw71 hF
                have hw71_ := hw71
                try simp only [bne_eq_false_iff_eq] at hw71_
                refine RW.soft (by exact Wd.yes (x := 136) rfl (AF_ev rfl (Eq.trans tp (congrArg Value.bool hw71)))) (v := .int .i64 r54.2.1) (by exact E.move (AF_ev rfl (up rfl (up rfl (up rfl (up rfl (up rfl (up rfl (up rfl (up rfl (up rfl hs20))))))))))) ?_
                refine RW.soft (by exact Wd.yes (x := 136) rfl (AF_ev rfl (up rfl (Eq.trans tp (congrArg Value.bool hw71))))) (v := .bool (r54.2.1 != 0)) (by exact E.neq (k := .i64) (a := r54.2.1) (b := 0) (AF_ev rfl tp) rfl) ?_
                refine RW.soft Wd.a (v := .bool (r54.2.1 != 0)) (by exact E.pickF (AF_ev rfl (up rfl (up rfl (Eq.trans tp (congrArg Value.bool hw71))))) (AF_ev rfl tp)) ?_
                refine RW.soft Wd.a (v := .bool (r54.2.1 != 0)) (by exact E.move (AF_ev rfl tp)) ?_
                refine Or.elim (Bool.eq_false_or_eq_true (r54.2.1 != 0)) (fun hw72 => ?_) (fun hw72 => ?_)
                · have hF := ct hw72 hF
                  have hw72_ := hw72
                  try simp only [bne_iff_ne, ne_eq] at hw72_
                  refine RW.pass (by exact Wd.no (x := 140) (b := true) rfl (AF_ev rfl (Eq.trans tp (congrArg Value.bool hw72))) rfl) ?_
                  refine RW.pass (by exact Wd.no (x := 140) (b := true) rfl (AF_ev rfl (up rfl (Eq.trans tp (congrArg Value.bool hw72)))) rfl) ?_
                  refine RW.soft Wd.a (v := .bool true) (by exact E.pickT (AF_ev rfl (up rfl (up rfl (Eq.trans tp (congrArg Value.bool hw72))))) rfl) ?_
                  refine RW.soft Wd.a (v := .bool true) (by exact E.move (AF_ev rfl tp)) ?_
                  refine RW.pass (by exact Wd.no (x := 144) (b := true) rfl (AF_ev rfl tp) rfl) ?_
                  refine RW.pass (by exact Wd.no (x := 144) (b := true) rfl (AF_ev rfl (up rfl tp)) rfl) ?_
                  refine RW.pass (by exact Wd.no (x := 144) (b := true) rfl (AF_ev rfl (up rfl (up rfl tp))) rfl) ?_
                  refine RW.pass (by exact Wd.no (x := 144) (b := true) rfl (AF_ev rfl (up rfl (up rfl (up rfl tp)))) rfl) ?_
                  refine RW.pass (by exact Wd.no (x := 144) (b := true) rfl (AF_ev rfl (up rfl (up rfl (up rfl (up rfl tp))))) rfl) ?_
                  refine RW.soft Wd.a (v := .bool true) (by exact E.pickT (AF_ev rfl (up rfl (up rfl (up rfl (up rfl (up rfl tp)))))) rfl) ?_
                  refine RW.soft Wd.a (v := .bool true) (by exact E.move (AF_ev rfl tp)) ?_
                  refine RW.pass (by exact Wd.no (x := 151) (b := true) rfl (AF_ev rfl tp) rfl) ?_
                  refine RW.pass (by exact Wd.no (x := 151) (b := true) rfl (AF_ev rfl (up rfl tp)) rfl) ?_
                  refine RW.pass (by exact Wd.no (x := 151) (b := true) rfl (AF_ev rfl (up rfl (up rfl tp))) rfl) ?_
                  refine RW.pass (by exact Wd.no (x := 151) (b := true) rfl (AF_ev rfl (up rfl (up rfl (up rfl tp)))) rfl) ?_
                  refine RW.pass (by exact Wd.no (x := 151) (b := true) rfl (AF_ev rfl (up rfl (up rfl (up rfl (up rfl tp))))) rfl) ?_
                  refine RW.soft Wd.a (v := .bool true) (by exact E.pickT (AF_ev rfl (up rfl (up rfl (up rfl (up rfl (up rfl tp)))))) rfl) ?_
                  refine RW.nil ?_
                  refine Th.n ?_
                  have hst := hst.take (.there (.there (.there (.there (.there .here)))))
                  have hst := hst.take (.there (.there (.there (.there (.there .here)))))
                  have hst := hst.take (.there (.there (.there (.there .here))))
                  have hst := hst.take (.there (.there (.there .here)))
                  have hst := hst.take (.there (.there (.there (.there (.there .here)))))
                  have hst := hst.take (.there (.there (.there (.there (.there .here)))))
                  exact ⟨false, false, false, false, true, true, true, true, true, true, true, hF, up rfl (up rfl (up rfl (up rfl (up rfl (up rfl (up rfl (up rfl (up rfl (up rfl (up rfl (up rfl (up rfl (up rfl (up rfl (up rfl (up rfl (up rfl (up rfl (up rfl (up rfl (up rfl (up rfl (up rfl (up rfl (up rfl (up rfl (up rfl (up rfl (up rfl hs0))))))))))))))))))))))))))))), up rfl (up rfl (up rfl (up rfl (up rfl (up rfl (up rfl (up rfl (up rfl (up rfl (up rfl (up rfl (up rfl (up rfl (up rfl (up rfl (up rfl (up rfl (up rfl (up rfl (up rfl (up rfl (up rfl (up rfl (up rfl (up rfl (up rfl (up rfl (up rfl (up rfl hs1))))))))))))))))))))))))))))), up rfl (up rfl (up rfl (up rfl (up rfl (up rfl (up rfl (up rfl (up rfl (up rfl (up rfl (up rfl (up rfl (up rfl (up rfl (up rfl (up rfl (up rfl (up rfl (up rfl (up rfl (up rfl (up rfl (up rfl (up rfl (up rfl (up rfl (up rfl (up rfl (up rfl hs2))))))))))))))))))))))))))))), up rfl (up rfl (up rfl (up rfl (up rfl (up rfl (up rfl (up rfl (up rfl (up rfl (up rfl (up rfl (up rfl (up rfl (up rfl (up rfl (up rfl (up rfl (up rfl (up rfl (up rfl (up rfl (up rfl (up rfl (up rfl (up rfl (up rfl (up rfl (up rfl (up rfl hs6))))))))))))))))))))))))))))), up rfl (up rfl (up rfl (up rfl (up rfl (up rfl (up rfl (up rfl (up rfl (up rfl (up rfl (up rfl (up rfl (up rfl (up rfl (up rfl (up rfl (up rfl (up rfl (up rfl (up rfl (up rfl (up rfl (up rfl (up rfl (up rfl (up rfl (up rfl (up rfl (up rfl hs8))))))))))))))))))))))))))))), up rfl (up rfl (up rfl (up rfl (up rfl (up rfl (up rfl (up rfl (up rfl (up rfl (up rfl (up rfl (up rfl (up rfl (up rfl (up rfl (up rfl (up rfl (up rfl (up rfl (up rfl (up rfl (up rfl (up rfl (up rfl (up rfl (up rfl (up rfl (up rfl (up rfl hs9))))))))))))))))))))))))))))), up rfl (up rfl (up rfl (up rfl (up rfl (up rfl (up rfl (up rfl (up rfl (up rfl (up rfl (up rfl (up rfl (up rfl (up rfl (up rfl (up rfl (up rfl (up rfl (up rfl (up rfl (up rfl (up rfl (up rfl (up rfl (up rfl (up rfl (up rfl (up rfl (up rfl hs11))))))))))))))))))))))))))))), up rfl (up rfl (up rfl (up rfl (up rfl (up rfl (up rfl (up rfl (up rfl (up rfl (up rfl (up rfl (up rfl (up rfl (up rfl (up rfl (up rfl (up rfl (up rfl (up rfl (up rfl (up rfl (up rfl (up rfl (up rfl (up rfl (up rfl (up rfl (up rfl (up rfl hs15))))))))))))))))))))))))))))), up rfl (up rfl (up rfl (up rfl (up rfl (up rfl (up rfl (up rfl (up rfl (up rfl (up rfl (up rfl (up rfl (up rfl (up rfl (up rfl (up rfl (up rfl (up rfl (up rfl (up rfl (up rfl (up rfl (up rfl (up rfl (up rfl (up rfl (up rfl (up rfl (up rfl hs16))))))))))))))))))))))))))))), up rfl (up rfl (up rfl (up rfl (up rfl (up rfl (up rfl (up rfl (up rfl (up rfl (up rfl (up rfl (up rfl (up rfl (up rfl (up rfl (up rfl (up rfl (up rfl (up rfl (up rfl (up rfl (up rfl (up rfl (up rfl (up rfl (up rfl (up rfl (up rfl (up rfl hs17))))))))))))))))))))))))))))), up rfl (up rfl (up rfl (up rfl (up rfl (up rfl (up rfl (up rfl (up rfl (up rfl (up rfl (up rfl (up rfl (up rfl (up rfl (up rfl (up rfl (up rfl (up rfl (up rfl (up rfl (up rfl (up rfl (up rfl (up rfl (up rfl (up rfl (up rfl (up rfl (up rfl hs18))))))))))))))))))))))))))))), up rfl (up rfl (up rfl (up rfl (up rfl (up rfl (up rfl (up rfl (up rfl (up rfl (up rfl (up rfl (up rfl (up rfl (up rfl (up rfl (up rfl (up rfl (up rfl (up rfl (up rfl (up rfl (up rfl (up rfl (up rfl (up rfl (up rfl (up rfl (up rfl (up rfl hs19))))))))))))))))))))))))))))), up rfl (up rfl (up rfl (up rfl (up rfl (up rfl (up rfl (up rfl (up rfl (up rfl (up rfl (up rfl (up rfl (up rfl (up rfl (up rfl (up rfl (up rfl (up rfl (up rfl (up rfl (up rfl (up rfl (up rfl (up rfl (up rfl (up rfl (up rfl (up rfl (up rfl hs20))))))))))))))))))))))))))))), up rfl (up rfl (up rfl (up rfl (up rfl (up rfl (up rfl (up rfl (up rfl (up rfl (up rfl (up rfl (up rfl (up rfl (up rfl (up rfl (up rfl (up rfl (up rfl (up rfl (up rfl (up rfl (up rfl (up rfl (up rfl (up rfl (up rfl (up rfl (up rfl (up rfl hs21))))))))))))))))))))))))))))), up rfl (up rfl (up rfl (up rfl (up rfl (up rfl (up rfl (up rfl (up rfl (up rfl (up rfl (up rfl (up rfl (up rfl (up rfl (up rfl (up rfl (up rfl (up rfl (up rfl (up rfl (up rfl (up rfl (up rfl (up rfl (up rfl (up rfl (up rfl (up rfl (up rfl hs22))))))))))))))))))))))))))))), up rfl (up rfl (up rfl (up rfl (up rfl (up rfl (up rfl (up rfl (up rfl (up rfl (up rfl (up rfl (up rfl (up rfl (up rfl (up rfl (up rfl (up rfl (up rfl (up rfl (up rfl (up rfl (up rfl (up rfl (up rfl (up rfl (up rfl (up rfl (up rfl (up rfl hs96))))))))))))))))))))))))))))), up rfl (up rfl (up rfl (up rfl (up rfl (up rfl (up rfl (up rfl (up rfl (up rfl (up rfl (up rfl (up rfl (up rfl (up rfl (up rfl (up rfl (up rfl (up rfl (up rfl (up rfl (up rfl (up rfl (up rfl (up rfl (up rfl (up rfl (up rfl (up rfl tp)))))))))))))))))))))))))))), up rfl (up rfl (up rfl (up rfl (up rfl (up rfl (up rfl (up rfl (up rfl (up rfl (up rfl (up rfl (up rfl (up rfl (up rfl (up rfl (up rfl (up rfl (up rfl (up rfl (up rfl (up rfl (up rfl (up rfl (up rfl (up rfl (up rfl (up rfl (Eq.trans tp (congrArg Value.bool hw70))))))))))))))))))))))))))))), up rfl (up rfl (up rfl (up rfl (up rfl (up rfl (up rfl (up rfl (up rfl (up rfl (up rfl (up rfl (up rfl (up rfl (up rfl (up rfl (up rfl (up rfl (up rfl (up rfl (up rfl (up rfl (up rfl (up rfl (up rfl (up rfl (up rfl (Eq.trans tp (congrArg Value.bool hw70)))))))))))))))))))))))))))), up rfl (up rfl (up rfl (up rfl (up rfl (up rfl (up rfl (up rfl (up rfl (up rfl (up rfl (up rfl (up rfl (up rfl (up rfl (up rfl (up rfl (up rfl (up rfl (up rfl (up rfl (up rfl (Eq.trans tp (congrArg Value.bool hw71))))))))))))))))))))))), up rfl (up rfl (up rfl (up rfl (up rfl (up rfl (up rfl (up rfl (up rfl (up rfl (up rfl (up rfl (up rfl (up rfl (up rfl (up rfl (up rfl (up rfl (up rfl (up rfl (up rfl (Eq.trans tp (congrArg Value.bool hw71)))))))))))))))))))))), up rfl (up rfl (up rfl (up rfl (up rfl (up rfl (up rfl (up rfl (up rfl (up rfl (up rfl (up rfl (up rfl (up rfl (up rfl (up rfl (up rfl (up rfl (Eq.trans tp (congrArg Value.bool hw72))))))))))))))))))), up rfl (up rfl (up rfl (up rfl (up rfl (up rfl (up rfl (up rfl (up rfl (up rfl (up rfl (up rfl (up rfl (up rfl (up rfl (up rfl (up rfl (Eq.trans tp (congrArg Value.bool hw72)))))))))))))))))), up rfl (up rfl (up rfl (up rfl (up rfl (up rfl (up rfl (up rfl (up rfl (up rfl (up rfl (up rfl (up rfl (up rfl tp))))))))))))), up rfl (up rfl (up rfl (up rfl (up rfl (up rfl (up rfl (up rfl (up rfl (up rfl (up rfl (up rfl (up rfl tp)))))))))))), up rfl (up rfl (up rfl (up rfl (up rfl (up rfl (up rfl tp)))))), up rfl (up rfl (up rfl (up rfl (up rfl (up rfl tp))))), tp, hst⟩
                · have hF := cf hw72 hF
                  have hw72_ := hw72
                  try simp only [bne_eq_false_iff_eq] at hw72_
                  refine RW.soft (by exact Wd.yes (x := 140) rfl (AF_ev rfl (Eq.trans tp (congrArg Value.bool hw72)))) (v := .int .i64 r57.2.1) (by exact E.move (AF_ev rfl (up rfl (up rfl (up rfl (up rfl (up rfl (up rfl (up rfl (up rfl (up rfl (up rfl (up rfl (up rfl (up rfl hs22))))))))))))))) ?_
                  refine RW.soft (by exact Wd.yes (x := 140) rfl (AF_ev rfl (up rfl (Eq.trans tp (congrArg Value.bool hw72))))) (v := .bool (r57.2.1 != 0)) (by exact E.neq (k := .i64) (a := r57.2.1) (b := 0) (AF_ev rfl tp) rfl) ?_
                  refine RW.soft Wd.a (v := .bool (r57.2.1 != 0)) (by exact E.pickF (AF_ev rfl (up rfl (up rfl (Eq.trans tp (congrArg Value.bool hw72))))) (AF_ev rfl tp)) ?_
                  refine RW.soft Wd.a (v := .bool (r57.2.1 != 0)) (by exact E.move (AF_ev rfl tp)) ?_
                  refine Or.elim (Bool.eq_false_or_eq_true (r57.2.1 != 0)) (fun hw73 => ?_) (fun hw73 => ?_)
                  · have hF := ct hw73 hF
                    have hw73_ := hw73
                    try simp only [bne_iff_ne, ne_eq] at hw73_
                    refine RW.pass (by exact Wd.no (x := 144) (b := true) rfl (AF_ev rfl (Eq.trans tp (congrArg Value.bool hw73))) rfl) ?_
                    refine RW.pass (by exact Wd.no (x := 144) (b := true) rfl (AF_ev rfl (up rfl (Eq.trans tp (congrArg Value.bool hw73)))) rfl) ?_
                    refine RW.pass (by exact Wd.no (x := 144) (b := true) rfl (AF_ev rfl (up rfl (up rfl (Eq.trans tp (congrArg Value.bool hw73))))) rfl) ?_
                    refine RW.pass (by exact Wd.no (x := 144) (b := true) rfl (AF_ev rfl (up rfl (up rfl (up rfl (Eq.trans tp (congrArg Value.bool hw73)))))) rfl) ?_
                    refine RW.pass (by exact Wd.no (x := 144) (b := true) rfl (AF_ev rfl (up rfl (up rfl (up rfl (up rfl (Eq.trans tp (congrArg Value.bool hw73))))))) rfl) ?_
                    refine RW.soft Wd.a (v := .bool true) (by exact E.pickT (AF_ev rfl (up rfl (up rfl (up rfl (up rfl (up rfl (Eq.trans tp (congrArg Value.bool hw73)))))))) rfl) ?_
                    refine RW.soft Wd.a (v := .bool true) (by exact E.move (AF_ev rfl tp)) ?_
                    refine RW.pass (by exact Wd.no (x := 151) (b := true) rfl (AF_ev rfl tp) rfl) ?_
                    refine RW.pass (by exact Wd.no (x := 151) (b := true) rfl (AF_ev rfl (up rfl tp)) rfl) ?_
                    refine RW.pass (by exact Wd.no (x := 151) (b := true) rfl (AF_ev rfl (up rfl (up rfl tp))) rfl) ?_
                    refine RW.pass (by exact Wd.no (x := 151) (b := true) rfl (AF_ev rfl (up rfl (up rfl (up rfl tp)))) rfl) ?_
                    refine RW.pass (by exact Wd.no (x := 151) (b := true) rfl (AF_ev rfl (up rfl (up rfl (up rfl (up rfl tp))))) rfl) ?_
                    refine RW.soft Wd.a (v := .bool true) (by exact E.pickT (AF_ev rfl (up rfl (up rfl (up rfl (up rfl (up rfl tp)))))) rfl) ?_
                    refine RW.nil ?_
                    refine Th.n ?_
                    have hst := hst.take (.there (.there (.there (.there (.there .here)))))
                    have hst := hst.take (.there (.there (.there (.there (.there .here)))))
                    have hst := hst.take (.there (.there (.there (.there .here))))
                    have hst := hst.take (.there (.there (.there .here)))
                    have hst := hst.take (.there (.there (.there (.there (.there .here)))))
                    have hst := hst.take (.there (.there (.there (.there (.there .here)))))
                    exact ⟨false, false, false, false, false, false, true, true, true, true, true, hF, up rfl (up rfl (up rfl (up rfl (up rfl (up rfl (up rfl (up rfl (up rfl (up rfl (up rfl (up rfl (up rfl (up rfl (up rfl (up rfl (up rfl (up rfl (up rfl (up rfl (up rfl (up rfl (up rfl (up rfl (up rfl (up rfl (up rfl (up rfl (up rfl (up rfl hs0))))))))))))))))))))))))))))), up rfl (up rfl (up rfl (up rfl (up rfl (up rfl (up rfl (up rfl (up rfl (up rfl (up rfl (up rfl (up rfl (up rfl (up rfl (up rfl (up rfl (up rfl (up rfl (up rfl (up rfl (up rfl (up rfl (up rfl (up rfl (up rfl (up rfl (up rfl (up rfl (up rfl hs1))))))))))))))))))))))))))))), up rfl (up rfl (up rfl (up rfl (up rfl (up rfl (up rfl (up rfl (up rfl (up rfl (up rfl (up rfl (up rfl (up rfl (up rfl (up rfl (up rfl (up rfl (up rfl (up rfl (up rfl (up rfl (up rfl (up rfl (up rfl (up rfl (up rfl (up rfl (up rfl (up rfl hs2))))))))))))))))))))))))))))), up rfl (up rfl (up rfl (up rfl (up rfl (up rfl (up rfl (up rfl (up rfl (up rfl (up rfl (up rfl (up rfl (up rfl (up rfl (up rfl (up rfl (up rfl (up rfl (up rfl (up rfl (up rfl (up rfl (up rfl (up rfl (up rfl (up rfl (up rfl (up rfl (up rfl hs6))))))))))))))))))))))))))))), up rfl (up rfl (up rfl (up rfl (up rfl (up rfl (up rfl (up rfl (up rfl (up rfl (up rfl (up rfl (up rfl (up rfl (up rfl (up rfl (up rfl (up rfl (up rfl (up rfl (up rfl (up rfl (up rfl (up rfl (up rfl (up rfl (up rfl (up rfl (up rfl (up rfl hs8))))))))))))))))))))))))))))), up rfl (up rfl (up rfl (up rfl (up rfl (up rfl (up rfl (up rfl (up rfl (up rfl (up rfl (up rfl (up rfl (up rfl (up rfl (up rfl (up rfl (up rfl (up rfl (up rfl (up rfl (up rfl (up rfl (up rfl (up rfl (up rfl (up rfl (up rfl (up rfl (up rfl hs9))))))))))))))))))))))))))))), up rfl (up rfl (up rfl (up rfl (up rfl (up rfl (up rfl (up rfl (up rfl (up rfl (up rfl (up rfl (up rfl (up rfl (up rfl (up rfl (up rfl (up rfl (up rfl (up rfl (up rfl (up rfl (up rfl (up rfl (up rfl (up rfl (up rfl (up rfl (up rfl (up rfl hs11))))))))))))))))))))))))))))), up rfl (up rfl (up rfl (up rfl (up rfl (up rfl (up rfl (up rfl (up rfl (up rfl (up rfl (up rfl (up rfl (up rfl (up rfl (up rfl (up rfl (up rfl (up rfl (up rfl (up rfl (up rfl (up rfl (up rfl (up rfl (up rfl (up rfl (up rfl (up rfl (up rfl hs15))))))))))))))))))))))))))))), up rfl (up rfl (up rfl (up rfl (up rfl (up rfl (up rfl (up rfl (up rfl (up rfl (up rfl (up rfl (up rfl (up rfl (up rfl (up rfl (up rfl (up rfl (up rfl (up rfl (up rfl (up rfl (up rfl (up rfl (up rfl (up rfl (up rfl (up rfl (up rfl (up rfl hs16))))))))))))))))))))))))))))), up rfl (up rfl (up rfl (up rfl (up rfl (up rfl (up rfl (up rfl (up rfl (up rfl (up rfl (up rfl (up rfl (up rfl (up rfl (up rfl (up rfl (up rfl (up rfl (up rfl (up rfl (up rfl (up rfl (up rfl (up rfl (up rfl (up rfl (up rfl (up rfl (up rfl hs17))))))))))))))))))))))))))))), up rfl (up rfl (up rfl (up rfl (up rfl (up rfl (up rfl (up rfl (up rfl (up rfl (up rfl (up rfl (up rfl (up rfl (up rfl (up rfl (up rfl (up rfl (up rfl (up rfl (up rfl (up rfl (up rfl (up rfl (up rfl (up rfl (up rfl (up rfl (up rfl (up rfl hs18))))))))))))))))))))))))))))), up rfl (up rfl (up rfl (up rfl (up rfl (up rfl (up rfl (up rfl (up rfl (up rfl (up rfl (up rfl (up rfl (up rfl (up rfl (up rfl (up rfl (up rfl (up rfl (up rfl (up rfl (up rfl (up rfl (up rfl (up rfl (up rfl (up rfl (up rfl (up rfl (up rfl hs19))))))))))))))))))))))))))))), up rfl (up rfl (up rfl (up rfl (up rfl (up rfl (up rfl (up rfl (up rfl (up rfl (up rfl (up rfl (up rfl (up rfl (up rfl (up rfl (up rfl (up rfl (up rfl (up rfl (up rfl (up rfl (up rfl (up rfl (up rfl (up rfl (up rfl (up rfl (up rfl (up rfl hs20))))))))))))))))))))))))))))), up rfl (up rfl (up rfl (up rfl (up rfl (up rfl (up rfl (up rfl (up rfl (up rfl (up rfl (up rfl (up rfl (up rfl (up rfl (up rfl (up rfl (up rfl (up rfl (up rfl (up rfl (up rfl (up rfl (up rfl (up rfl (up rfl (up rfl (up rfl (up rfl (up rfl hs21))))))))))))))))))))))))))))), up rfl (up rfl (up rfl (up rfl (up rfl (up rfl (up rfl (up rfl (up rfl (up rfl (up rfl (up rfl (up rfl (up rfl (up rfl (up rfl (up rfl (up rfl (up rfl (up rfl (up rfl (up rfl (up rfl (up rfl (up rfl (up rfl (up rfl (up rfl (up rfl (up rfl hs22))))))))))))))))))))))))))))), up rfl (up rfl (up rfl (up rfl (up rfl (up rfl (up rfl (up rfl (up rfl (up rfl (up rfl (up rfl (up rfl (up rfl (up rfl (up rfl (up rfl (up rfl (up rfl (up rfl (up rfl (up rfl (up rfl (up rfl (up rfl (up rfl (up rfl (up rfl (up rfl (up rfl hs96))))))))))))))))))))))))))))), up rfl (up rfl (up rfl (up rfl (up rfl (up rfl (up rfl (up rfl (up rfl (up rfl (up rfl (up rfl (up rfl (up rfl (up rfl (up rfl (up rfl (up rfl (up rfl (up rfl (up rfl (up rfl (up rfl (up rfl (up rfl (up rfl (up rfl (up rfl (up rfl tp)))))))))))))))))))))))))))), up rfl (up rfl (up rfl (up rfl (up rfl (up rfl (up rfl (up rfl (up rfl (up rfl (up rfl (up rfl (up rfl (up rfl (up rfl (up rfl (up rfl (up rfl (up rfl (up rfl (up rfl (up rfl (up rfl (up rfl (up rfl (up rfl (up rfl (up rfl (Eq.trans tp (congrArg Value.bool hw70))))))))))))))))))))))))))))), up rfl (up rfl (up rfl (up rfl (up rfl (up rfl (up rfl (up rfl (up rfl (up rfl (up rfl (up rfl (up rfl (up rfl (up rfl (up rfl (up rfl (up rfl (up rfl (up rfl (up rfl (up rfl (up rfl (up rfl (up rfl (up rfl (up rfl (Eq.trans tp (congrArg Value.bool hw70)))))))))))))))))))))))))))), up rfl (up rfl (up rfl (up rfl (up rfl (up rfl (up rfl (up rfl (up rfl (up rfl (up rfl (up rfl (up rfl (up rfl (up rfl (up rfl (up rfl (up rfl (up rfl (up rfl (up rfl (up rfl (Eq.trans tp (congrArg Value.bool hw71))))))))))))))))))))))), up rfl (up rfl (up rfl (up rfl (up rfl (up rfl (up rfl (up rfl (up rfl (up rfl (up rfl (up rfl (up rfl (up rfl (up rfl (up rfl (up rfl (up rfl (up rfl (up rfl (up rfl (Eq.trans tp (congrArg Value.bool hw71)))))))))))))))))))))), up rfl (up rfl (up rfl (up rfl (up rfl (up rfl (up rfl (up rfl (up rfl (up rfl (up rfl (up rfl (up rfl (up rfl (up rfl (up rfl (up rfl (up rfl (Eq.trans tp (congrArg Value.bool hw72))))))))))))))))))), up rfl (up rfl (up rfl (up rfl (up rfl (up rfl (up rfl (up rfl (up rfl (up rfl (up rfl (up rfl (up rfl (up rfl (up rfl (up rfl (up rfl (Eq.trans tp (congrArg Value.bool hw72)))))))))))))))))), up rfl (up rfl (up rfl (up rfl (up rfl (up rfl (up rfl (up rfl (up rfl (up rfl (up rfl (up rfl (up rfl (up rfl (Eq.trans tp (congrArg Value.bool hw73))))))))))))))), up rfl (up rfl (up rfl (up rfl (up rfl (up rfl (up rfl (up rfl (up rfl (up rfl (up rfl (up rfl (up rfl (Eq.trans tp (congrArg Value.bool hw73)))))))))))))), up rfl (up rfl (up rfl (up rfl (up rfl (up rfl (up rfl tp)))))), up rfl (up rfl (up rfl (up rfl (up rfl (up rfl tp))))), tp, hst⟩
                  · have hF := cf hw73 hF
                    have hw73_ := hw73
                    try simp only [bne_eq_false_iff_eq] at hw73_
                    refine RW.soft (by exact Wd.yes (x := 144) rfl (AF_ev rfl (Eq.trans tp (congrArg Value.bool hw73)))) (v := .slice Xq55_0 r54.1.length cq55_0) (by exact E.move (AF_ev rfl (up rfl (up rfl (up rfl (up rfl (up rfl (up rfl (up rfl (up rfl (up rfl (up rfl (up rfl (up rfl (up rfl (up rfl (up rfl (up rfl (up rfl hs19))))))))))))))))))) ?_
                    refine RW.soft (by exact Wd.yes (x := 144) rfl (AF_ev rfl (up rfl (Eq.trans tp (congrArg Value.bool hw73))))) (v := .string (sb r54.1)) (by exact E.strB (v := .slice Xq55_0 r54.1.length cq55_0) (m := r54.1.length) (l := r54.1) Try.underlying25 Try.underlying5 Try.underlying9 (AF_ev rfl tp) ((Own.src (hst.take (.there (.there (.there (.there (.there .here))))))))) ?_
                    refine RW.soft (by exact Wd.yes (x := 144) rfl (AF_ev rfl (up rfl (up rfl (Eq.trans tp (congrArg Value.bool hw73)))))) (v := .slice X_o o.length c_o) (by exact E.move (AF_ev rfl (up rfl (up rfl (up rfl (up rfl (up rfl (up rfl (up rfl (up rfl (up rfl (up rfl (up rfl (up rfl (up rfl (up rfl (up rfl (up rfl (up rfl (up rfl (up rfl hs1))))))))))))))))))))) ?_
                    refine RW.soft (by exact Wd.yes (x := 144) rfl (AF_ev rfl (up rfl (up rfl (up rfl (Eq.trans tp (congrArg Value.bool hw73))))))) (v := .string (sb o)) (by exact E.strB (v := .slice X_o o.length c_o) (m := o.length) (l := o) Try.underlying25 Try.underlying5 Try.underlying9 (AF_ev rfl tp) ((hS_o _ _ (hst.take (.there .here))))) ?_
                    refine RW.soft (by exact Wd.yes (x := 144) rfl (AF_ev rfl (up rfl (up rfl (up rfl (up rfl (Eq.trans tp (congrArg Value.bool hw73)))))))) (v := .bool (r54.1 != o)) (by exact E.neqSB (a := r54.1) (b := o) (AF_ev rfl (up rfl (up rfl tp))) (AF_ev rfl tp)) ?_
                    refine RW.soft Wd.a (v := .bool (r54.1 != o)) (by exact E.pickF (AF_ev rfl (up rfl (up rfl (up rfl (up rfl (up rfl (Eq.trans tp (congrArg Value.bool hw73)))))))) (AF_ev rfl tp)) ?_
                    refine RW.soft Wd.a (v := .bool (r54.1 != o)) (by exact E.move (AF_ev rfl tp)) ?_
                    refine Or.elim (Bool.eq_false_or_eq_true (r54.1 != o)) (fun hw74 => ?_) (fun hw74 => ?_)
                    · have hF := ct hw74 hF
                      have hw74_ := hw74
                      try simp only [bne_iff_ne, ne_eq] at hw74_
                      refine RW.pass (by exact Wd.no (x := 151) (b := true) rfl (AF_ev rfl (Eq.trans tp (congrArg Value.bool hw74))) rfl) ?_
                      refine RW.pass (by exact Wd.no (x := 151) (b := true) rfl (AF_ev rfl (up rfl (Eq.trans tp (congrArg Value.bool hw74)))) rfl) ?_
                      refine RW.pass (by exact Wd.no (x := 151) (b := true) rfl (AF_ev rfl (up rfl (up rfl (Eq.trans tp (congrArg Value.bool hw74))))) rfl) ?_
                      refine RW.pass (by exact Wd.no (x := 151) (b := true) rfl (AF_ev rfl (up rfl (up rfl (up rfl (Eq.trans tp (congrArg Value.bool hw74)))))) rfl) ?_
                      refine RW.pass (by exact Wd.no (x := 151) (b := true) rfl (AF_ev rfl (up rfl (up rfl (up rfl (up rfl (Eq.trans tp (congrArg Value.bool hw74))))))) rfl) ?_
                      refine RW.soft Wd.a (v := .bool true) (by exact E.pickT (AF_ev rfl (up rfl (up rfl (up rfl (up rfl (up rfl (Eq.trans tp (congrArg Value.bool hw74)))))))) rfl) ?_
                      refine RW.nil ?_
                      refine Th.n ?_
                      have hst := hst.take (.there (.there (.there (.there (.there .here)))))
                      have hst := hst.take (.there (.there (.there (.there (.there .here)))))
                      have hst := hst.take (.there (.there (.there (.there .here))))
                      have hst := hst.take (.there (.there (.there .here)))
                      have hst := hst.take (.there (.there (.there (.there (.there .here)))))
                      have hst := hst.take (.there (.there (.there (.there (.there .here)))))
                      exact ⟨false, false, false, false, false, false, false, false, true, true, true, hF, up rfl (up rfl (up rfl (up rfl (up rfl (up rfl (up rfl (up rfl (up rfl (up rfl (up rfl (up rfl (up rfl (up rfl (up rfl (up rfl (up rfl (up rfl (up rfl (up rfl (up rfl (up rfl (up rfl (up rfl (up rfl (up rfl (up rfl (up rfl (up rfl (up rfl hs0))))))))))))))))))))))))))))), up rfl (up rfl (up rfl (up rfl (up rfl (up rfl (up rfl (up rfl (up rfl (up rfl (up rfl (up rfl (up rfl (up rfl (up rfl (up rfl (up rfl (up rfl (up rfl (up rfl (up rfl (up rfl (up rfl (up rfl (up rfl (up rfl (up rfl (up rfl (up rfl (up rfl hs1))))))))))))))))))))))))))))), up rfl (up rfl (up rfl (up rfl (up rfl (up rfl (up rfl (up rfl (up rfl (up rfl (up rfl (up rfl (up rfl (up rfl (up rfl (up rfl (up rfl (up rfl (up rfl (up rfl (up rfl (up rfl (up rfl (up rfl (up rfl (up rfl (up rfl (up rfl (up rfl (up rfl hs2))))))))))))))))))))))))))))), up rfl (up rfl (up rfl (up rfl (up rfl (up rfl (up rfl (up rfl (up rfl (up rfl (up rfl (up rfl (up rfl (up rfl (up rfl (up rfl (up rfl (up rfl (up rfl (up rfl (up rfl (up rfl (up rfl (up rfl (up rfl (up rfl (up rfl (up rfl (up rfl (up rfl hs6))))))))))))))))))))))))))))), up rfl (up rfl (up rfl (up rfl (up rfl (up rfl (up rfl (up rfl (up rfl (up rfl (up rfl (up rfl (up rfl (up rfl (up rfl (up rfl (up rfl (up rfl (up rfl (up rfl (up rfl (up rfl (up rfl (up rfl (up rfl (up rfl (up rfl (up rfl (up rfl (up rfl hs8))))))))))))))))))))))))))))), up rfl (up rfl (up rfl (up rfl (up rfl (up rfl (up rfl (up rfl (up rfl (up rfl (up rfl (up rfl (up rfl (up rfl (up rfl (up rfl (up rfl (up rfl (up rfl (up rfl (up rfl (up rfl (up rfl (up rfl (up rfl (up rfl (up rfl (up rfl (up rfl (up rfl hs9))))))))))))))))))))))))))))), up rfl (up rfl (up rfl (up rfl (up rfl (up rfl (up rfl (up rfl (up rfl (up rfl (up rfl (up rfl (up rfl (up rfl (up rfl (up rfl (up rfl (up rfl (up rfl (up rfl (up rfl (up rfl (up rfl (up rfl (up rfl (up rfl (up rfl (up rfl (up rfl (up rfl hs11))))))))))))))))))))))))))))), up rfl (up rfl (up rfl (up rfl (up rfl (up rfl (up rfl (up rfl (up rfl (up rfl (up rfl (up rfl (up rfl (up rfl (up rfl (up rfl (up rfl (up rfl (up rfl (up rfl (up rfl (up rfl (up rfl (up rfl (up rfl (up rfl (up rfl (up rfl (up rfl (up rfl hs15))))))))))))))))))))))))))))), up rfl (up rfl (up rfl (up rfl (up rfl (up rfl (up rfl (up rfl (up rfl (up rfl (up rfl (up rfl (up rfl (up rfl (up rfl (up rfl (up rfl (up rfl (up rfl (up rfl (up rfl (up rfl (up rfl (up rfl (up rfl (up rfl (up rfl (up rfl (up rfl (up rfl hs16))))))))))))))))))))))))))))), up rfl (up rfl (up rfl (up rfl (up rfl (up rfl (up rfl (up rfl (up rfl (up rfl (up rfl (up rfl (up rfl (up rfl (up rfl (up rfl (up rfl (up rfl (up rfl (up rfl (up rfl (up rfl (up rfl (up rfl (up rfl (up rfl (up rfl (up rfl (up rfl (up rfl hs17))))))))))))))))))))))))))))), up rfl (up rfl (up rfl (up rfl (up rfl (up rfl (up rfl (up rfl (up rfl (up rfl (up rfl (up rfl (up rfl (up rfl (up rfl (up rfl (up rfl (up rfl (up rfl (up rfl (up rfl (up rfl (up rfl (up rfl (up rfl (up rfl (up rfl (up rfl (up rfl (up rfl hs18))))))))))))))))))))))))))))), up rfl (up rfl (up rfl (up rfl (up rfl (up rfl (up rfl (up rfl (up rfl (up rfl (up rfl (up rfl (up rfl (up rfl (up rfl (up rfl (up rfl (up rfl (up rfl (up rfl (up rfl (up rfl (up rfl (up rfl (up rfl (up rfl (up rfl (up rfl (up rfl (up rfl hs19))))))))))))))))))))))))))))), up rfl (up rfl (up rfl (up rfl (up rfl (up rfl (up rfl (up rfl (up rfl (up rfl (up rfl (up rfl (up rfl (up rfl (up rfl (up rfl (up rfl (up rfl (up rfl (up rfl (up rfl (up rfl (up rfl (up rfl (up rfl (up rfl (up rfl (up rfl (up rfl (up rfl hs20))))))))))))))))))))))))))))), up rfl (up rfl (up rfl (up rfl (up rfl (up rfl (up rfl (up rfl (up rfl (up rfl (up rfl (up rfl (up rfl (up rfl (up rfl (up rfl (up rfl (up rfl (up rfl (up rfl (up rfl (up rfl (up rfl (up rfl (up rfl (up rfl (up rfl (up rfl (up rfl (up rfl hs21))))))))))))))))))))))))))))), up rfl (up rfl (up rfl (up rfl (up rfl (up rfl (up rfl (up rfl (up rfl (up rfl (up rfl (up rfl (up rfl (up rfl (up rfl (up rfl (up rfl (up rfl (up rfl (up rfl (up rfl (up rfl (up rfl (up rfl (up rfl (up rfl (up rfl (up rfl (up rfl (up rfl hs22))))))))))))))))))))))))))))), up rfl (up rfl (up rfl (up rfl (up rfl (up rfl (up rfl (up rfl (up rfl (up rfl (up rfl (up rfl (up rfl (up rfl (up rfl (up rfl (up rfl (up rfl (up rfl (up rfl (up rfl (up rfl (up rfl (up rfl (up rfl (up rfl (up rfl (up rfl (up rfl (up rfl hs96))))))))))))))))))))))))))))), up rfl (up rfl (up rfl (up rfl (up rfl (up rfl (up rfl (up rfl (up rfl (up rfl (up rfl (up rfl (up rfl (up rfl (up rfl (up rfl (up rfl (up rfl (up rfl (up rfl (up rfl (up rfl (up rfl (up rfl (up rfl (up rfl (up rfl (up rfl (up rfl tp)))))))))))))))))))))))))))), up rfl (up rfl (up rfl (up rfl (up rfl (up rfl (up rfl (up rfl (up rfl (up rfl (up rfl (up rfl (up rfl (up rfl (up rfl (up rfl (up rfl (up rfl (up rfl (up rfl (up rfl (up rfl (up rfl (up rfl (up rfl (up rfl (up rfl (up rfl (Eq.trans tp (congrArg Value.bool hw70))))))))))))))))))))))))))))), up rfl (up rfl (up rfl (up rfl (up rfl (up rfl (up rfl (up rfl (up rfl (up rfl (up rfl (up rfl (up rfl (up rfl (up rfl (up rfl (up rfl (up rfl (up rfl (up rfl (up rfl (up rfl (up rfl (up rfl (up rfl (up rfl (up rfl (Eq.trans tp (congrArg Value.bool hw70)))))))))))))))))))))))))))), up rfl (up rfl (up rfl (up rfl (up rfl (up rfl (up rfl (up rfl (up rfl (up rfl (up rfl (up rfl (up rfl (up rfl (up rfl (up rfl (up rfl (up rfl (up rfl (up rfl (up rfl (up rfl (Eq.trans tp (congrArg Value.bool hw71))))))))))))))))))))))), up rfl (up rfl (up rfl (up rfl (up rfl (up rfl (up rfl (up rfl (up rfl (up rfl (up rfl (up rfl (up rfl (up rfl (up rfl (up rfl (up rfl (up rfl (up rfl (up rfl (up rfl (Eq.trans tp (congrArg Value.bool hw71)))))))))))))))))))))), up rfl (up rfl (up rfl (up rfl (up rfl (up rfl (up rfl (up rfl (up rfl (up rfl (up rfl (up rfl (up rfl (up rfl (up rfl (up rfl (up rfl (up rfl (Eq.trans tp (congrArg Value.bool hw72))))))))))))))))))), up rfl (up rfl (up rfl (up rfl (up rfl (up rfl (up rfl (up rfl (up rfl (up rfl (up rfl (up rfl (up rfl (up rfl (up rfl (up rfl (up rfl (Eq.trans tp (congrArg Value.bool hw72)))))))))))))))))), up rfl (up rfl (up rfl (up rfl (up rfl (up rfl (up rfl (up rfl (up rfl (up rfl (up rfl (up rfl (up rfl (up rfl (Eq.trans tp (congrArg Value.bool hw73))))))))))))))), up rfl (up rfl (up rfl (up rfl (up rfl (up rfl (up rfl (up rfl (up rfl (up rfl (up rfl (up rfl (up rfl (Eq.trans tp (congrArg Value.bool hw73)))))))))))))), up rfl (up rfl (up rfl (up rfl (up rfl (up rfl (up rfl (Eq.trans tp (congrArg Value.bool hw74)))))))), up rfl (up rfl (up rfl (up rfl (up rfl (up rfl (Eq.trans tp (congrArg Value.bool hw74))))))), tp, hst⟩
                    · have hF := cf hw74 hF
                      have hw74_ := hw74
                      try simp only [bne_eq_false_iff_eq] at hw74_
                      refine RW.soft (by exact Wd.yes (x := 151) rfl (AF_ev rfl (Eq.trans tp (congrArg Value.bool hw74)))) (v := .slice Xq58_0 r57.1.length cq58_0) (by exact E.move (AF_ev rfl (up rfl (up rfl (up rfl (up rfl (up rfl (up rfl (up rfl (up rfl (up rfl (up rfl (up rfl (up rfl (up rfl (up rfl (up rfl (up rfl (up rfl (up rfl (up rfl (up rfl (up rfl (up rfl (up rfl (up rfl hs21)))))))))))))))))))))))))) ?_
                      refine RW.soft (by exact Wd.yes (x := 151) rfl (AF_ev rfl (up rfl (Eq.trans tp (congrArg Value.bool hw74))))) (v := .string (sb r57.1)) (by exact E.strB (v := .slice Xq58_0 r57.1.length cq58_0) (m := r57.1.length) (l := r57.1) Try.underlying25 Try.underlying5 Try.underlying9 (AF_ev rfl tp) ((Own.src (hst.take (.there (.there .here)))))) ?_
                      refine RW.soft (by exact Wd.yes (x := 151) rfl (AF_ev rfl (up rfl (up rfl (Eq.trans tp (congrArg Value.bool hw74)))))) (v := .slice X_o o.length c_o) (by exact E.move (AF_ev rfl (up rfl (up rfl (up rfl (up rfl (up rfl (up rfl (up rfl (up rfl (up rfl (up rfl (up rfl (up rfl (up rfl (up rfl (up rfl (up rfl (up rfl (up rfl (up rfl (up rfl (up rfl (up rfl (up rfl (up rfl (up rfl (up rfl hs1)))))))))))))))))))))))))))) ?_
                      refine RW.soft (by exact Wd.yes (x := 151) rfl (AF_ev rfl (up rfl (up rfl (up rfl (Eq.trans tp (congrArg Value.bool hw74))))))) (v := .string (sb o)) (by exact E.strB (v := .slice X_o o.length c_o) (m := o.length) (l := o) Try.underlying25 Try.underlying5 Try.underlying9 (AF_ev rfl tp) ((hS_o _ _ (hst.take (.there .here))))) ?_
                      refine RW.soft (by exact Wd.yes (x := 151) rfl (AF_ev rfl (up rfl (up rfl (up rfl (up rfl (Eq.trans tp (congrArg Value.bool hw74)))))))) (v := .bool (r57.1 != o)) (by exact E.neqSB (a := r57.1) (b := o) (AF_ev rfl (up rfl (up rfl tp))) (AF_ev rfl tp)) ?_
                      refine RW.soft Wd.a (v := .bool (r57.1 != o)) (by exact E.pickF (AF_ev rfl (up rfl (up rfl (up rfl (up rfl (up rfl (Eq.trans tp (congrArg Value.bool hw74)))))))) (AF_ev rfl tp)) ?_
                      refine RW.nil ?_
                      refine Th.n ?_
                      have hst := hst.take (.there (.there (.there (.there (.there .here)))))
                      have hst := hst.take (.there (.there (.there (.there (.there .here)))))
                      have hst := hst.take (.there (.there (.there (.there .here))))
                      have hst := hst.take (.there (.there (.there .here)))
                      have hst := hst.take (.there (.there (.there (.there (.there .here)))))
                      have hst := hst.take (.there (.there (.there (.there (.there .here)))))
                      exact ⟨false, false, false, false, false, false, false, false, false, false, (r57.1 != o), hF, up rfl (up rfl (up rfl (up rfl (up rfl (up rfl (up rfl (up rfl (up rfl (up rfl (up rfl (up rfl (up rfl (up rfl (up rfl (up rfl (up rfl (up rfl (up rfl (up rfl (up rfl (up rfl (up rfl (up rfl (up rfl (up rfl (up rfl (up rfl (up rfl (up rfl hs0))))))))))))))))))))))))))))), up rfl (up rfl (up rfl (up rfl (up rfl (up rfl (up rfl (up rfl (up rfl (up rfl (up rfl (up rfl (up rfl (up rfl (up rfl (up rfl (up rfl (up rfl (up rfl (up rfl (up rfl (up rfl (up rfl (up rfl (up rfl (up rfl (up rfl (up rfl (up rfl (up rfl hs1))))))))))))))))))))))))))))), up rfl (up rfl (up rfl (up rfl (up rfl (up rfl (up rfl (up rfl (up rfl (up rfl (up rfl (up rfl (up rfl (up rfl (up rfl (up rfl (up rfl (up rfl (up rfl (up rfl (up rfl (up rfl (up rfl (up rfl (up rfl (up rfl (up rfl (up rfl (up rfl (up rfl hs2))))))))))))))))))))))))))))), up rfl (up rfl (up rfl (up rfl (up rfl (up rfl (up rfl (up rfl (up rfl (up rfl (up rfl (up rfl (up rfl (up rfl (up rfl (up rfl (up rfl (up rfl (up rfl (up rfl (up rfl (up rfl (up rfl (up rfl (up rfl (up rfl (up rfl (up rfl (up rfl (up rfl hs6))))))))))))))))))))))))))))), up rfl (up rfl (up rfl (up rfl (up rfl (up rfl (up rfl (up rfl (up rfl (up rfl (up rfl (up rfl (up rfl (up rfl (up rfl (up rfl (up rfl (up rfl (up rfl (up rfl (up rfl (up rfl (up rfl (up rfl (up rfl (up rfl (up rfl (up rfl (up rfl (up rfl hs8))))))))))))))))))))))))))))), up rfl (up rfl (up rfl (up rfl (up rfl (up rfl (up rfl (up rfl (up rfl (up rfl (up rfl (up rfl (up rfl (up rfl (up rfl (up rfl (up rfl (up rfl (up rfl (up rfl (up rfl (up rfl (up rfl (up rfl (up rfl (up rfl (up rfl (up rfl (up rfl (up rfl hs9))))))))))))))))))))))))))))), up rfl (up rfl (up rfl (up rfl (up rfl (up rfl (up rfl (up rfl (up rfl (up rfl (up rfl (up rfl (up rfl (up rfl (up rfl (up rfl (up rfl (up rfl (up rfl (up rfl (up rfl (up rfl (up rfl (up rfl (up rfl (up rfl (up rfl (up rfl (up rfl (up rfl hs11))))))))))))))))))))))))))))), up rfl (up rfl (up rfl (up rfl (up rfl (up rfl (up rfl (up rfl (up rfl (up rfl (up rfl (up rfl (up rfl (up rfl (up rfl (up rfl (up rfl (up rfl (up rfl (up rfl (up rfl (up rfl (up rfl (up rfl (up rfl (up rfl (up rfl (up rfl (up rfl (up rfl hs15))))))))))))))))))))))))))))), up rfl (up rfl (up rfl (up rfl (up rfl (up rfl (up rfl (up rfl (up rfl (up rfl (up rfl (up rfl (up rfl (up rfl (up rfl (up rfl (up rfl (up rfl (up rfl (up rfl (up rfl (up rfl (up rfl (up rfl (up rfl (up rfl (up rfl (up rfl (up rfl (up rfl hs16))))))))))))))))))))))))))))), up rfl (up rfl (up rfl (up rfl (up rfl (up rfl (up rfl (up rfl (up rfl (up rfl (up rfl (up rfl (up rfl (up rfl (up rfl (up rfl (up rfl (up rfl (up rfl (up rfl (up rfl (up rfl (up rfl (up rfl (up rfl (up rfl (up rfl (up rfl (up rfl (up rfl hs17))))))))))))))))))))))))))))), up rfl (up rfl (up rfl (up rfl (up rfl (up rfl (up rfl (up rfl (up rfl (up rfl (up rfl (up rfl (up rfl (up rfl (up rfl (up rfl (up rfl (up rfl (up rfl (up rfl (up rfl (up rfl (up rfl (up rfl (up rfl (up rfl (up rfl (up rfl (up rfl (up rfl hs18))))))))))))))))))))))))))))), up rfl (up rfl (up rfl (up rfl (up rfl (up rfl (up rfl (up rfl (up rfl (up rfl (up rfl (up rfl (up rfl (up rfl (up rfl (up rfl (up rfl (up rfl (up rfl (up rfl (up rfl (up rfl (up rfl (up rfl (up rfl (up rfl (up rfl (up rfl (up rfl (up rfl hs19))))))))))))))))))))))))))))), up rfl (up rfl (up rfl (up rfl (up rfl (up rfl (up rfl (up rfl (up rfl (up rfl (up rfl (up rfl (up rfl (up rfl (up rfl (up rfl (up rfl (up rfl (up rfl (up rfl (up rfl (up rfl (up rfl (up rfl (up rfl (up rfl (up rfl (up rfl (up rfl (up rfl hs20))))))))))))))))))))))))))))), up rfl (up rfl (up rfl (up rfl (up rfl (up rfl (up rfl (up rfl (up rfl (up rfl (up rfl (up rfl (up rfl (up rfl (up rfl (up rfl (up rfl (up rfl (up rfl (up rfl (up rfl (up rfl (up rfl (up rfl (up rfl (up rfl (up rfl (up rfl (up rfl (up rfl hs21))))))))))))))))))))))))))))), up rfl (up rfl (up rfl (up rfl (up rfl (up rfl (up rfl (up rfl (up rfl (up rfl (up rfl (up rfl (up rfl (up rfl (up rfl (up rfl (up rfl (up rfl (up rfl (up rfl (up rfl (up rfl (up rfl (up rfl (up rfl (up rfl (up rfl (up rfl (up rfl (up rfl hs22))))))))))))))))))))))))))))), up rfl (up rfl (up rfl (up rfl (up rfl (up rfl (up rfl (up rfl (up rfl (up rfl (up rfl (up rfl (up rfl (up rfl (up rfl (up rfl (up rfl (up rfl (up rfl (up rfl (up rfl (up rfl (up rfl (up rfl (up rfl (up rfl (up rfl (up rfl (up rfl (up rfl hs96))))))))))))))))))))))))))))), up rfl (up rfl (up rfl (up rfl (up rfl (up rfl (up rfl (up rfl (up rfl (up rfl (up rfl (up rfl (up rfl (up rfl (up rfl (up rfl (up rfl (up rfl (up rfl (up rfl (up rfl (up rfl (up rfl (up rfl (up rfl (up rfl (up rfl (up rfl (up rfl tp)))))))))))))))))))))))))))), up rfl (up rfl (up rfl (up rfl (up rfl (up rfl (up rfl (up rfl (up rfl (up rfl (up rfl (up rfl (up rfl (up rfl (up rfl (up rfl (up rfl (up rfl (up rfl (up rfl (up rfl (up rfl (up rfl (up rfl (up rfl (up rfl (up rfl (up rfl (Eq.trans tp (congrArg Value.bool hw70))))))))))))))))))))))))))))), up rfl (up rfl (up rfl (up rfl (up rfl (up rfl (up rfl (up rfl (up rfl (up rfl (up rfl (up rfl (up rfl (up rfl (up rfl (up rfl (up rfl (up rfl (up rfl (up rfl (up rfl (up rfl (up rfl (up rfl (up rfl (up rfl (up rfl (Eq.trans tp (congrArg Value.bool hw70)))))))))))))))))))))))))))), up rfl (up rfl (up rfl (up rfl (up rfl (up rfl (up rfl (up rfl (up rfl (up rfl (up rfl (up rfl (up rfl (up rfl (up rfl (up rfl (up rfl (up rfl (up rfl (up rfl (up rfl (up rfl (Eq.trans tp (congrArg Value.bool hw71))))))))))))))))))))))), up rfl (up rfl (up rfl (up rfl (up rfl (up rfl (up rfl (up rfl (up rfl (up rfl (up rfl (up rfl (up rfl (up rfl (up rfl (up rfl (up rfl (up rfl (up rfl (up rfl (up rfl (Eq.trans tp (congrArg Value.bool hw71)))))))))))))))))))))), up rfl (up rfl (up rfl (up rfl (up rfl (up rfl (up rfl (up rfl (up rfl (up rfl (up rfl (up rfl (up rfl (up rfl (up rfl (up rfl (up rfl (up rfl (Eq.trans tp (congrArg Value.bool hw72))))))))))))))))))), up rfl (up rfl (up rfl (up rfl (up rfl (up rfl (up rfl (up rfl (up rfl (up rfl (up rfl (up rfl (up rfl (up rfl (up rfl (up rfl (up rfl (Eq.trans tp (congrArg Value.bool hw72)))))))))))))))))), up rfl (up rfl (up rfl (up rfl (up rfl (up rfl (up rfl (up rfl (up rfl (up rfl (up rfl (up rfl (up rfl (up rfl (Eq.trans tp (congrArg Value.bool hw73))))))))))))))), up rfl (up rfl (up rfl (up rfl (up rfl (up rfl (up rfl (up rfl (up rfl (up rfl (up rfl (up rfl (up rfl (Eq.trans tp (congrArg Value.bool hw73)))))))))))))), up rfl (up rfl (up rfl (up rfl (up rfl (up rfl (up rfl (Eq.trans tp (congrArg Value.bool hw74)))))))), up rfl (up rfl (up rfl (up rfl (up rfl (up rfl (Eq.trans tp (congrArg Value.bool hw74))))))), tp, hst⟩
          rintro τ w ⟨j59, j60, j61, j62, j63, j64, j65, j66, j67, j68, j69, hF, hs0, hs1, hs2, hs6, hs8, hs9, hs11, hs15, hs16, hs17, hs18, hs19, hs20, hs21, hs22, hs96, hs128, hs129, hs130, hs135, hs136, hs139, hs140, hs143, hs144, hs150, hs151, hs157, hst⟩
          unfold EnvBack_j6 at hF
          refine CW.cond (AF_ev rfl hs157) (fun hc75 => ?_) (fun hc75 => ?_)
          · have hF := ct hc75 hF
            refine CW.seq ?_
            refine CW.region ?_
            refine RW.soft Wd.a (v := .bool false) (by exact E.assign rfl) ?_
            refine RW.fin (fun τ => τ 0 = .slice (some ⟨b12, o13, none⟩) n_t c_t ∧ τ 1 = .slice X_o o.length c_o ∧ τ 2 = .slice X_A' A'.length c_A' ∧ τ 6 = .bool false ∧ τ 8 = .pointer (some ⟨b3, 0, none⟩) ∧ τ 9 = .int .i64 r15.1 ∧ τ 11 = .slice Xq20_0 r19.1.length cq20_0 ∧ τ 15 = .int .i64 s37 ∧ τ 16 = .slice Xq52_0 r51.1.length cq52_0 ∧ τ 17 = .int .i64 r51.2.1 ∧ τ 18 = .int .i64 r51.2.2.1 ∧ τ 19 = .slice Xq55_0 r54.1.length cq55_0 ∧ τ 20 = .int .i64 r54.2.1 ∧ τ 21 = .slice Xq58_0 r57.1.length cq58_0 ∧ τ 22 = .int .i64 r57.2.1 ∧ τ 96 = .bool true ∧ τ 157 = .bool true) ⟨up rfl hs0, up rfl hs1, up rfl hs2, tp, up rfl hs8, up rfl hs9, up rfl hs11, up rfl hs15, up rfl hs16, up rfl hs17, up rfl hs18, up rfl hs19, up rfl hs20, up rfl hs21, up rfl hs22, up rfl hs96, up rfl (Eq.trans hs157 (congrArg Value.bool hc75))⟩ ?_
            rintro τ ⟨hs0, hs1, hs2, hs6, hs8, hs9, hs11, hs15, hs16, hs17, hs18, hs19, hs20, hs21, hs22, hs96, hs157⟩
            refine CW.ret ?_
            refine Bl.r ?_
            refine Th.r ?_
            refine Th.r ?_
            refine Bl.r ?_
            refine Th.r ?_
            refine ret1 (v := .bool false) rfl (by exact (.tmp (AF_ev rfl hs6) .nil)) ?_
            have hst := (hst.take (.there .here)).drop
            have hst := (hst.take (.there .here)).drop
            have hst := (hst.take (.there .here)).drop
            have hst := (hst.take (.there .here)).drop
            have hst := (hst.take (.there .here)).drop
            rw [somE hF]
            exact ⟨rfl, hst⟩
          · have hF := cf hc75 hF
            refine CW.skip ?_
            refine Bl.n ?_
            refine Th.n ?_
            refine CW.region ?_
            refine RW.soft Wd.a (v := .int .i64 s37) (by exact E.move (AF_ev rfl hs15)) ?_
            refine RW.soft Wd.a (v := .int .i64 (w64 (s37 + 1))) (by exact E.add (k := .i64) (a := s37) (b := 1) (AF_ev rfl tp) rfl rfl) ?_
            refine RW.soft Wd.a (v := .int .i64 (w64 (s37 + 1))) (by exact E.assign (AF_ev rfl tp)) ?_
            refine RW.nil ?_
            refine Th.n ?_
            have hst := hst.take (.there (.there .here))
            have hst := hst.take (.there (.there .here))
            have hst := hst.take (.there (.there .here))
            have hst := (hst.take (.there (.there (.there .here)))).drop
            have hst := (hst.take (.there (.there (.there .here)))).drop
            have hst := (hst.take (.there (.there (.there .here)))).drop
            exact ⟨k40, Nat.lt_succ_self _, s36, (w64 (s37 + 1)), r57.2.2, (w64_rng _), hF, up rfl (up rfl (up rfl hs6)), tp, up rfl (up rfl (up rfl hs0)), up rfl (up rfl (up rfl hs1)), up rfl (up rfl (up rfl hs2)), up rfl (up rfl (up rfl hs8)), up rfl (up rfl (up rfl hs9)), up rfl (up rfl (up rfl hs11)), hst⟩
        · have hF := cf hc45 hF
          refine CW.exit ?_
          refine Th.x ?_
          refine Th.x ?_
          refine Bl.x ?_
          refine Th.n ?_
          refine CW.seq ?_
          refine CW.region ?_
          refine RW.soft Wd.a (v := .pointer (some ⟨b3, 0, none⟩)) (by exact E.move (AF_ev rfl hs8)) ?_
          refine RW.soft Wd.a (v := .slice Xq20_0 r19.1.length cq20_0) (by exact E.move (AF_ev rfl (up rfl hs11))) ?_
          refine RW.soft Wd.a (v := .slice X_A' A'.length c_A') (by exact E.move (AF_ev rfl (up rfl (up rfl hs2)))) ?_
          obtain ⟨hg76, hF⟩ := pl hF
          obtain ⟨r77, h_r77, hF⟩ := bd hF
          have hst := hst.take (.there (.there .here))
          have hst := St.join (l := [SL.Own 5 1 (.slice Xq20_0 r19.1.length cq20_0) r19.1.length (r19.1.map bu8), A]) hst
          have hst := hst.take (.there .here)
          refine RW.hard Wd.a ?_
          refine H.call0 Try.func20 nm20 rfl (map3 (AF_ev rfl (up rfl (up rfl tp))) (AF_ev rfl (up rfl tp)) (AF_ev rfl tp)) (Calls.mono (Decrypt_C (A := (all [SL.Own 5 1 (.slice Xq20_0 r19.1.length cq20_0) r19.1.length (r19.1.map bu8), A])) ks38 r19.1 (by first | omega | (simp; done)) (fun w H s => by have s := (show St _ _ (SL.Own 5 1 (.slice Xq20_0 r19.1.length cq20_0) r19.1.length (r19.1.map bu8) :: A :: H) from St.split s); exact (Own.src (s.take .here))) A' (by first | omega | (simp; done)) (fun w H s => by have s := (show St _ _ (SL.Own 5 1 (.slice Xq20_0 r19.1.length cq20_0) r19.1.length (r19.1.map bu8) :: A :: H) from St.split s); exact (hS_A' _ _ (s.take (.there .here)))) r77 h_r77 hst) ?_)
          rintro _ w ⟨Xq78_0, cq78_0, rfl, hm_q78_0, hr_q78_1, hst⟩
          have hst := (show St p w (SL.Own 5 1 (.slice Xq20_0 r19.1.length cq20_0) r19.1.length (r19.1.map bu8) :: A :: SL.Own 5 1 (.slice Xq78_0 r77.1.length cq78_0) r77.1.length (r77.1.map bu8) :: KeysB 103 b3 r77.2.2 :: _) from (hst.take (.there (.there .here))).split)
          refine ⟨_, rfl, ?_⟩
          show RW _ _ _ _ _ _ _
          refine RW.soft Wd.a (v := .tuple #[.slice Xq78_0 r77.1.length cq78_0, .int .i64 r77.2.1]) (by exact E.move (AF_ev rfl tp)) ?_
          refine RW.soft Wd.a (v := .slice Xq78_0 r77.1.length cq78_0) (by exact E.extract (vs := #[.slice Xq78_0 r77.1.length cq78_0, .int .i64 r77.2.1]) (AF_ev rfl tp) rfl) ?_
          refine RW.soft Wd.a (v := .int .i64 r77.2.1) (by exact E.extract (vs := #[.slice Xq78_0 r77.1.length cq78_0, .int .i64 r77.2.1]) (AF_ev rfl (up rfl tp)) rfl) ?_
          refine RW.soft Wd.a (v := .slice Xq78_0 r77.1.length cq78_0) (by exact E.assign (AF_ev rfl (up rfl tp))) ?_
          refine RW.soft Wd.a (v := .int .i64 r77.2.1) (by exact E.assign (AF_ev rfl (up rfl tp))) ?_
          refine RW.fin (fun τ => τ 0 = .slice (some ⟨b12, o13, none⟩) n_t c_t ∧ τ 1 = .slice X_o o.length c_o ∧ τ 2 = .slice X_A' A'.length c_A' ∧ τ 6 = .bool s36 ∧ τ 8 = .pointer (some ⟨b3, 0, none⟩) ∧ τ 9 = .int .i64 r15.1 ∧ τ 11 = .slice Xq20_0 r19.1.length cq20_0 ∧ τ 15 = .int .i64 s37 ∧ τ 23 = .slice Xq78_0 r77.1.length cq78_0 ∧ τ 24 = .int .i64 r77.2.1 ∧ τ 96 = .bool false) ⟨up rfl (up rfl (up rfl (up rfl (up rfl (up rfl (up rfl (up rfl (up rfl hs0)))))))), up rfl (up rfl (up rfl (up rfl (up rfl (up rfl (up rfl (up rfl (up rfl hs1)))))))), up rfl (up rfl (up rfl (up rfl (up rfl (up rfl (up rfl (up rfl (up rfl hs2)))))))), up rfl (up rfl (up rfl (up rfl (up rfl (up rfl (up rfl (up rfl (up rfl hs6)))))))), up rfl (up rfl (up rfl (up rfl (up rfl (up rfl (up rfl (up rfl (up rfl hs8)))))))), up rfl (up rfl (up rfl (up rfl (up rfl (up rfl (up rfl (up rfl (up rfl hs9)))))))), up rfl (up rfl (up rfl (up rfl (up rfl (up rfl (up rfl (up rfl (up rfl hs11)))))))), up rfl (up rfl (up rfl (up rfl (up rfl (up rfl (up rfl (up rfl (up rfl hs15)))))))), up rfl tp, tp, up rfl (up rfl (up rfl (up rfl (up rfl (up rfl (up rfl (up rfl (up rfl (Eq.trans hs96 (congrArg Value.bool hc45))))))))))⟩ ?_
          rintro τ ⟨hs0, hs1, hs2, hs6, hs8, hs9, hs11, hs15, hs23, hs24, hs96⟩
          refine CW.seqJ (fun τ w => ∃ (j79 : Bool), EnvBack_j7 j79 = some r ∧ τ 6 = .bool j79 ∧ St p w (A :: R)) ?_ ?_
          · skip
            refine CW.region ?_
            refine RW.soft Wd.a (v := .int .i64 r77.2.1) (by exact E.move (AF_ev rfl hs24)) ?_
            refine RW.soft Wd.a (v := .bool (r77.2.1 == 0)) (by exact E.eql (k := .i64) (a := r77.2.1) (b := 0) (AF_ev rfl tp) rfl) ?_
            refine RW.soft Wd.a (v := .bool (r77.2.1 == 0)) (by exact E.move (AF_ev rfl tp)) ?_
            refine Or.elim (Bool.eq_false_or_eq_true (r77.2.1 == 0)) (fun hw80 => ?_) (fun hw80 => ?_)
            · have hF := ct hw80 hF
              have hw80_ := hw80
              try simp only [beq_iff_eq] at hw80_
              refine RW.soft (by exact Wd.yes (x := 167) rfl (AF_ev rfl (Eq.trans tp (congrArg Value.bool hw80)))) (v := .slice Xq78_0 r77.1.length cq78_0) (by exact E.move (AF_ev rfl (up rfl (up rfl (up rfl hs23))))) ?_
              refine RW.soft (by exact Wd.yes (x := 167) rfl (AF_ev rfl (up rfl (Eq.trans tp (congrArg Value.bool hw80))))) (v := .string (sb r77.1)) (by exact E.strB (v := .slice Xq78_0 r77.1.length cq78_0) (m := r77.1.length) (l := r77.1) Try.underlying25 Try.underlying5 Try.underlying9 (AF_ev rfl tp) ((Own.src (hst.take (.there (.there .here)))))) ?_
              refine RW.soft (by exact Wd.yes (x := 167) rfl (AF_ev rfl (up rfl (up rfl (Eq.trans tp (congrArg Value.bool hw80)))))) (v := .slice X_o o.length c_o) (by exact E.move (AF_ev rfl (up rfl (up rfl (up rfl (up rfl (up rfl hs1))))))) ?_
              refine RW.soft (by exact Wd.yes (x := 167) rfl (AF_ev rfl (up rfl (up rfl (up rfl (Eq.trans tp (congrArg Value.bool hw80))))))) (v := .string (sb o)) (by exact E.strB (v := .slice X_o o.length c_o) (m := o.length) (l := o) Try.underlying25 Try.underlying5 Try.underlying9 (AF_ev rfl tp) ((hS_o _ _ (hst.take (.there .here))))) ?_
              refine RW.soft (by exact Wd.yes (x := 167) rfl (AF_ev rfl (up rfl (up rfl (up rfl (up rfl (Eq.trans tp (congrArg Value.bool hw80)))))))) (v := .bool (r77.1 == o)) (by exact E.eqlSB (a := r77.1) (b := o) (AF_ev rfl (up rfl (up rfl tp))) (AF_ev rfl tp)) ?_
              refine RW.soft Wd.a (v := .bool (r77.1 == o)) (by exact E.pickT (AF_ev rfl (up rfl (up rfl (up rfl (up rfl (up rfl (Eq.trans tp (congrArg Value.bool hw80)))))))) (AF_ev rfl tp)) ?_
              refine RW.soft Wd.a (v := .bool (r77.1 == o)) (by exact E.assign (AF_ev rfl tp)) ?_
              refine RW.nil ?_
              refine Th.n ?_
              have hst := hst.take (.there .here)
              have hst := (hst.take (.there .here)).drop
              have hst := (hst.take (.there .here)).drop
              have hst := (hst.take (.there .here)).drop
              exact ⟨(r77.1 == o), hF, tp, hst⟩
            · have hF := cf hw80 hF
              have hw80_ := hw80
              try simp only [beq_eq_false_iff_ne, ne_eq] at hw80_
              refine RW.pass (by exact Wd.no (x := 167) (b := false) rfl (AF_ev rfl (Eq.trans tp (congrArg Value.bool hw80))) rfl) ?_
              refine RW.pass (by exact Wd.no (x := 167) (b := false) rfl (AF_ev rfl (up rfl (Eq.trans tp (congrArg Value.bool hw80)))) rfl) ?_
              refine RW.pass (by exact Wd.no (x := 167) (b := false) rfl (AF_ev rfl (up rfl (up rfl (Eq.trans tp (congrArg Value.bool hw80))))) rfl) ?_
              refine RW.pass (by exact Wd.no (x := 167) (b := false) rfl (AF_ev rfl (up rfl (up rfl (up rfl (Eq.trans tp (congrArg Value.bool hw80)))))) rfl) ?_
              refine RW.pass (by exact Wd.no (x := 167) (b := false) rfl (AF_ev rfl (up rfl (up rfl (up rfl (up rfl (Eq.trans tp (congrArg Value.bool hw80))))))) rfl) ?_
              refine RW.soft Wd.a (v := .bool false) (by exact E.pickF (AF_ev rfl (up rfl (up rfl (up rfl (up rfl (up rfl (Eq.trans tp (congrArg Value.bool hw80)))))))) rfl) ?_
              refine RW.soft Wd.a (v := .bool false) (by exact E.assign (AF_ev rfl tp)) ?_
              refine RW.nil ?_
              refine Th.n ?_
              have hst := hst.take (.there .here)
              have hst := (hst.take (.there .here)).drop
              have hst := (hst.take (.there .here)).drop
              have hst := (hst.take (.there .here)).drop
              exact ⟨false, hF, tp, hst⟩
          rintro τ w ⟨j79, hF, hs6, hst⟩
          unfold EnvBack_j7 at hF
          refine CW.ret ?_
          refine ret1 (v := .bool j79) rfl (by exact (.tmp (AF_ev rfl hs6) .nil)) ?_
          rw [somE hF]
          exact ⟨rfl, hst⟩
end Go.Proofs.Ytjpjejldinpcnaa
