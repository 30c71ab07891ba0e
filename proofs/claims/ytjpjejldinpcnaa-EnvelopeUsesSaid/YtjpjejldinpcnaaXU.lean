/- Functions that were walked through by a program: what each comes to, as a plain function, and the proof. -/
import Derived.Test.YtjpjejldinpcnaaX8
namespace Go.Proofs.Ytjpjejldinpcnaa
open Go.RowKit Go.SL Go.K13
attribute [local irreducible] Go.SL.RW Go.SL.CW Go.SL.RD Go.SL.Hd Go.SL.St
set_option linter.unusedVariables false
set_option linter.unusedSimpArgs false
set_option maxRecDepth 20000
set_option maxHeartbeats 4000000

theorem nm10 : (Try.f10.name == "runtime.NumGoroutine") = false := by kernel_rfl
theorem nm11 : (Try.f11.name == "runtime.NumGoroutine") = false := by kernel_rfl
theorem nm14 : (Try.f14.name == "runtime.NumGoroutine") = false := by kernel_rfl
theorem nm15 : (Try.f15.name == "runtime.NumGoroutine") = false := by kernel_rfl
theorem nm21 : (Try.f21.name == "runtime.NumGoroutine") = false := by kernel_rfl
theorem nm23 : (Try.f23.name == "runtime.NumGoroutine") = false := by kernel_rfl

def EnvUses_j3 (t : List (BitVec 8)) (o : List (BitVec 8)) (r10 : Int × Int × RKB) (s14 : Bool) (i15 : Nat) (r20 : List (BitVec 8) × Int × Int × RKB) (rc_EnvUses_l2 : Bool → Nat → RKB → Option (Bool)) (j25 : Bool) (j26 : Bool) (j27 : Bool) (j28 : Bool) (j29 : Bool) (j30 : Bool) (j31 : Bool) : Option (Bool) :=
  bif j31 then
    some (false)
  else
    rc_EnvUses_l2 s14 (i15 + 1) r20.2.2.2
def EnvUses_j4   (j43 : Bool) : Option (Bool) :=
  some (j43)
def EnvUses_l2 (t : List (BitVec 8)) (o : List (BitVec 8)) (r10 : Int × Int × RKB)  : Nat → Bool → Nat → RKB → Option (Bool)
  | 0, _, _, _ => none
  | k18 + 1, s14, i15, ks16 =>
    bif decide (((i15 : Nat) : Int) < 16) then
      (Encrypt ks16 r10.1 o ([] : List (BitVec 8))).bind fun r20 =>
      (Read r20.1).bind fun r22 =>
      bif r20.2.2.1 != 0 then
        EnvUses_j3 t o r10 s14 i15 r20 (fun (s14_ : Bool) (i15_ : Nat) (ks16_ : RKB) => EnvUses_l2 t o r10 k18 s14_ i15_ ks16_) true true true true true true true
      else
        bif r20.2.1 != 1 then
          EnvUses_j3 t o r10 s14 i15 r20 (fun (s14_ : Bool) (i15_ : Nat) (ks16_ : RKB) => EnvUses_l2 t o r10 k18 s14_ i15_ ks16_) false false true true true true true
        else
          bif r22.2.2.2.2 != 0 then
            EnvUses_j3 t o r10 s14 i15 r20 (fun (s14_ : Bool) (i15_ : Nat) (ks16_ : RKB) => EnvUses_l2 t o r10 k18 s14_ i15_ ks16_) false false false false true true true
          else
            EnvUses_j3 t o r10 s14 i15 r20 (fun (s14_ : Bool) (i15_ : Nat) (ks16_ : RKB) => EnvUses_l2 t o r10 k18 s14_ i15_ ks16_) false false false false false false (r22.2.2.1 != ([0#8, 0#8, 0#8, 0#8, 0#8, 0#8, 0#8, 0#8, 0#8, 0#8, 0#8, BitVec.ofInt 8 ((i15 : Nat) : Int)] : List (BitVec 8)))
    else
      (Encrypt ks16 r10.1 o ([] : List (BitVec 8))).bind fun r36 =>
      lt_ (sl 32 32 t) fun a38 =>
      lt_ (bRotate r36.2.2.2 r10.1 a38) fun r39 =>
      (Encrypt r39.2.2 r10.1 o ([] : List (BitVec 8))).bind fun r41 =>
      bif r36.2.2.1 == 133 then
        bif r41.2.2.1 == 0 then
          EnvUses_j4 (r41.2.1 == 2)
        else
          EnvUses_j4 false
      else
        EnvUses_j4 false
theorem EnvUses_l2_pos {t : List (BitVec 8)} {o : List (BitVec 8)} {r10 : Int × Int × RKB}  {fu_ : Nat} {s14 : Bool} {i15 : Nat} {ks16 : RKB} {r : Bool} (h : EnvUses_l2 t o r10 fu_ s14 i15 ks16 = some r) : ∃ j, fu_ = j + 1 := by
  cases fu_ with
  | zero => cases (show (none : Option (Bool)) = some r from h)
  | succ j => exact ⟨j, rfl⟩
def EnvUses_j1 (t : List (BitVec 8)) (o : List (BitVec 8))  (j5 : Bool) : Option (Bool) :=
  bif j5 then
    some (false)
  else
    bif decide (((o.length : Nat) : Int) > 64) then
      some (true)
    else
      lt_ (sl 0 32 t) fun a9 =>
      lt_ (bCreate ([] : RKB) a9) fun r10 =>
      EnvUses_l2 t o r10 1099511627776 false 0 r10.2.2
def EnvUses (t : List (BitVec 8)) (o : List (BitVec 8)) : Option (Bool) :=
  (Shown14).bind fun r2 =>
  bif !r2 then
    EnvUses_j1 t o true
  else
    EnvUses_j1 t o false
theorem EnvUses_C {p : Pers} {w : World} {R : List Assn} {A : Assn} (t : List (BitVec 8)) (hl_t : t.length = 64) {X_o : Option Addr} {c_o : Nat} (o : List (BitVec 8)) (hm_o : o.length ≤ 9223372036854775807) (hS_o : ∀ w H, St p w (A :: H) → SL.Src w 1 (.slice X_o o.length c_o) o.length (o.map bu8)) (r : Bool) (hF : EnvUses t o = some r) (hst : St p w (A :: R)) :
    Calls Try.prog 5 #[.agg ((t.map bu8)).toArray, .slice X_o o.length c_o] w fun e w => e = .returned (.bool r) ∧ St p w (A :: R) := by
  unfold EnvUses at hF
  refine enter Try.func5 rfl (by simp) (n := 110) rfl fun τ hτ => ?_
  have hs0 : τ 0 = .agg ((t.map bu8)).toArray := hτ 0 (by simp)
  have hs1 : τ 1 = .slice X_o o.length c_o := hτ 1 (by simp)
  clear hτ
  refine CW.seq ?_
  refine CW.region ?_
  refine RW.hard Wd.a ?_
  refine H.box (v := .agg ((t.map bu8)).toArray) (AF_ev rfl hs0) hst fun b1 w hst => ?_
  refine RW.soft Wd.a (v := .bool false) (by exact E.assign rfl) ?_
  refine RW.fin (fun τ => τ 0 = .agg ((t.map bu8)).toArray ∧ τ 1 = .slice X_o o.length c_o ∧ τ 2 = .pointer (some ⟨b1, 0, none⟩) ∧ τ 4 = .bool false) ⟨up rfl (up rfl hs0), up rfl (up rfl hs1), up rfl tp, tp⟩ ?_
  rintro τ ⟨hs0, hs1, hs2, hs4⟩
  refine CW.seq ?_
  refine CW.region ?_
  obtain ⟨r2, h_r2, hF⟩ := bd hF
  refine RW.hard Wd.a ?_
  refine H.call0 Try.func10 nm10 rfl map0 (Calls.mono (Shown14_C  r2 h_r2 hst) ?_)
  rintro _ w ⟨rfl, hst⟩
  refine ⟨_, rfl, ?_⟩
  show RW _ _ _ _ _ _ _
  refine RW.soft Wd.a (v := .bool r2) (by exact E.assign (AF_ev rfl tp)) ?_
  refine RW.fin (fun τ => τ 0 = .agg ((t.map bu8)).toArray ∧ τ 1 = .slice X_o o.length c_o ∧ τ 2 = .pointer (some ⟨b1, 0, none⟩) ∧ τ 4 = .bool false ∧ τ 5 = .bool r2) ⟨up rfl (up rfl hs0), up rfl (up rfl hs1), up rfl (up rfl hs2), up rfl (up rfl hs4), tp⟩ ?_
  rintro τ ⟨hs0, hs1, hs2, hs4, hs5⟩
  refine CW.seq ?_
  refine CW.region ?_
  refine RW.hard Wd.a ?_
  refine H.call0 Try.func16 nm16 rfl map0 (Calls.mono (New_B hst) ?_)
  rintro _ w ⟨b4, rfl, hst⟩
  refine ⟨_, rfl, ?_⟩
  show RW _ _ _ _ _ _ _
  refine RW.soft Wd.a (v := .pointer (some ⟨b4, 0, none⟩)) (by exact E.assign (AF_ev rfl tp)) ?_
  refine RW.fin (fun τ => τ 0 = .agg ((t.map bu8)).toArray ∧ τ 1 = .slice X_o o.length c_o ∧ τ 2 = .pointer (some ⟨b1, 0, none⟩) ∧ τ 4 = .bool false ∧ τ 5 = .bool r2 ∧ τ 6 = .pointer (some ⟨b4, 0, none⟩)) ⟨up rfl (up rfl hs0), up rfl (up rfl hs1), up rfl (up rfl hs2), up rfl (up rfl hs4), up rfl (up rfl hs5), tp⟩ ?_
  rintro τ ⟨hs0, hs1, hs2, hs4, hs5, hs6⟩
  refine CW.seq ?_
  refine CW.seqJ (fun τ w => ∃ (j5 : Bool), EnvUses_j1 t o j5 = some r ∧ τ 1 = .slice X_o o.length c_o ∧ τ 2 = .pointer (some ⟨b1, 0, none⟩) ∧ τ 4 = .bool false ∧ τ 6 = .pointer (some ⟨b4, 0, none⟩) ∧ τ 31 = .bool j5 ∧ St p w (KeysB 103 b4 ([] : RKB) :: pt b1 (.cells ((t.map bu8)).toArray 45) :: A :: R)) ?_ ?_
  · skip
    refine CW.region ?_
    refine RW.soft Wd.a (v := .bool r2) (by exact E.move (AF_ev rfl hs5)) ?_
    refine RW.soft Wd.a (v := .bool (!r2)) (by exact E.not (b := r2) (AF_ev rfl tp)) ?_
    refine RW.soft Wd.a (v := .bool (!r2)) (by exact E.move (AF_ev rfl tp)) ?_
    refine Or.elim (Bool.eq_false_or_eq_true (!r2)) (fun hw6 => ?_) (fun hw6 => ?_)
    · have hF := ct hw6 hF
      have hw6_ := hw6
      try simp only [Bool.not_eq_true', Bool.not_eq_false'] at hw6_
      refine RW.pass (by exact Wd.no (x := 28) (b := true) rfl (AF_ev rfl (Eq.trans tp (congrArg Value.bool hw6))) rfl) ?_
      refine RW.pass (by exact Wd.no (x := 28) (b := true) rfl (AF_ev rfl (up rfl (Eq.trans tp (congrArg Value.bool hw6)))) rfl) ?_
      refine RW.soft Wd.a (v := .bool true) (by exact E.pickT (AF_ev rfl (up rfl (up rfl (Eq.trans tp (congrArg Value.bool hw6))))) rfl) ?_
      refine RW.nil ?_
      refine Th.n ?_
      have hst := hst.take (.there (.there .here))
      have hst := hst.take (.there (.there .here))
      have hst := hst.take (.there (.there .here))
      exact ⟨true, hF, up rfl (up rfl (up rfl (up rfl (up rfl (up rfl hs1))))), up rfl (up rfl (up rfl (up rfl (up rfl (up rfl hs2))))), up rfl (up rfl (up rfl (up rfl (up rfl (up rfl hs4))))), up rfl (up rfl (up rfl (up rfl (up rfl (up rfl hs6))))), tp, hst⟩
    · have hF := cf hw6 hF
      have hw6_ := hw6
      try simp only [Bool.not_eq_true', Bool.not_eq_false'] at hw6_
      refine RW.soft (by exact Wd.yes (x := 28) rfl (AF_ev rfl (Eq.trans tp (congrArg Value.bool hw6)))) (v := .pointer (some ⟨b4, 0, none⟩)) (by exact E.move (AF_ev rfl (up rfl (up rfl (up rfl hs6))))) ?_
      refine RW.soft (by exact Wd.yes (x := 28) rfl (AF_ev rfl (up rfl (Eq.trans tp (congrArg Value.bool hw6))))) (v := .bool false) (by exact E.eqlP (p := (some ⟨b4, 0, none⟩)) Try.underlying35 (AF_ev rfl tp) rfl) ?_
      refine RW.soft Wd.a (v := .bool false) (by exact E.pickF (AF_ev rfl (up rfl (up rfl (Eq.trans tp (congrArg Value.bool hw6))))) (AF_ev rfl tp)) ?_
      refine RW.nil ?_
      refine Th.n ?_
      have hst := hst.take (.there (.there .here))
      have hst := hst.take (.there (.there .here))
      have hst := hst.take (.there (.there .here))
      exact ⟨false, hF, up rfl (up rfl (up rfl (up rfl (up rfl (up rfl hs1))))), up rfl (up rfl (up rfl (up rfl (up rfl (up rfl hs2))))), up rfl (up rfl (up rfl (up rfl (up rfl (up rfl hs4))))), up rfl (up rfl (up rfl (up rfl (up rfl (up rfl hs6))))), tp, hst⟩
  rintro τ w ⟨j5, hF, hs1, hs2, hs4, hs6, hs31, hst⟩
  unfold EnvUses_j1 at hF
  refine CW.cond (AF_ev rfl hs31) (fun hc7 => ?_) (fun hc7 => ?_)
  · have hF := ct hc7 hF
    refine CW.seq ?_
    refine CW.region ?_
    refine RW.soft Wd.a (v := .bool false) (by exact E.assign rfl) ?_
    refine RW.fin (fun τ => τ 1 = .slice X_o o.length c_o ∧ τ 2 = .pointer (some ⟨b1, 0, none⟩) ∧ τ 4 = .bool false ∧ τ 6 = .pointer (some ⟨b4, 0, none⟩) ∧ τ 31 = .bool true) ⟨up rfl hs1, up rfl hs2, tp, up rfl hs6, up rfl (Eq.trans hs31 (congrArg Value.bool hc7))⟩ ?_
    rintro τ ⟨hs1, hs2, hs4, hs6, hs31⟩
    refine CW.ret ?_
    refine Th.r ?_
    refine ret1 (v := .bool false) rfl (by exact (.tmp (AF_ev rfl hs4) .nil)) ?_
    have hst := hst.take (.there (.there .here))
    have hst := (hst.take (.there .here)).drop
    have hst := (hst.take (.there .here)).drop
    rw [somE hF]
    exact ⟨rfl, hst⟩
  · have hF := cf hc7 hF
    refine CW.skip ?_
    refine Th.n ?_
    refine CW.seq ?_
    refine CW.seq ?_
    refine CW.region ?_
    refine RW.soft Wd.a (v := .slice X_o o.length c_o) (by exact E.move (AF_ev rfl hs1)) ?_
    refine RW.soft Wd.a (v := .int .i64 ((o.length : Nat) : Int)) (by exact E.lenS (p := X_o) (l := o.length) (c := c_o) Try.underlying25 (AF_ev rfl tp)) ?_
    refine RW.soft Wd.a (v := .bool (decide (((o.length : Nat) : Int) > 64))) (by exact E.gtr (k := .i64) (a := ((o.length : Nat) : Int)) (b := 64) (AF_ev rfl tp) rfl) ?_
    refine RW.fin (fun τ => τ 1 = .slice X_o o.length c_o ∧ τ 2 = .pointer (some ⟨b1, 0, none⟩) ∧ τ 4 = .bool false ∧ τ 6 = .pointer (some ⟨b4, 0, none⟩) ∧ τ 31 = .bool false ∧ τ 34 = .bool (decide (((o.length : Nat) : Int) > 64))) ⟨up rfl (up rfl (up rfl hs1)), up rfl (up rfl (up rfl hs2)), up rfl (up rfl (up rfl hs4)), up rfl (up rfl (up rfl hs6)), up rfl (up rfl (up rfl (Eq.trans hs31 (congrArg Value.bool hc7)))), tp⟩ ?_
    rintro τ ⟨hs1, hs2, hs4, hs6, hs31, hs34⟩
    refine CW.cond (AF_ev rfl hs34) (fun hc8 => ?_) (fun hc8 => ?_)
    · have hF := ct hc8 hF
      have hc8_ := hc8
      try simp only [decide_eq_true_eq, gt_iff_lt, ge_iff_le] at hc8_
      refine CW.seq ?_
      refine CW.region ?_
      refine RW.soft Wd.a (v := .bool true) (by exact E.assign rfl) ?_
      refine RW.fin (fun τ => τ 1 = .slice X_o o.length c_o ∧ τ 2 = .pointer (some ⟨b1, 0, none⟩) ∧ τ 4 = .bool true ∧ τ 6 = .pointer (some ⟨b4, 0, none⟩) ∧ τ 31 = .bool false ∧ τ 34 = .bool true) ⟨up rfl hs1, up rfl hs2, tp, up rfl hs6, up rfl hs31, up rfl (Eq.trans hs34 (congrArg Value.bool hc8))⟩ ?_
      rintro τ ⟨hs1, hs2, hs4, hs6, hs31, hs34⟩
      refine CW.ret ?_
      refine Th.r ?_
      refine ret1 (v := .bool true) rfl (by exact (.tmp (AF_ev rfl hs4) .nil)) ?_
      have hst := hst.take (.there (.there .here))
      have hst := (hst.take (.there .here)).drop
      have hst := (hst.take (.there .here)).drop
      rw [somE hF]
      exact ⟨rfl, hst⟩
    · have hF := cf hc8 hF
      have hc8_ := hc8
      try simp only [decide_eq_false_iff_not, Int.not_lt, Int.not_le, gt_iff_lt, ge_iff_le] at hc8_
      refine CW.skip ?_
      refine Th.n ?_
      refine CW.seq ?_
      refine CW.region ?_
      refine RW.soft Wd.a (v := .pointer (some ⟨b4, 0, none⟩)) (by exact E.move (AF_ev rfl hs6)) ?_
      refine RW.soft Wd.a (v := .pointer (some ⟨b1, 0, none⟩)) (by exact E.indexAddrA (b := b1) (o := 0) (i := 0) Try.underlying45 sz34 (AF_ev rfl (up rfl hs2)) rfl (by omega) (by omega) (by omega)) ?_
      obtain ⟨a9, h_a9, hF⟩ := lp hF
      have hl_a9 : a9.length = 32 := by rw [h_a9]; exact sl_len hl_t (by omega)
      refine RW.soft Wd.a (v := .agg ((a9.map bu8)).toArray) (by exact E.loadN (b := b1) (o := 0) (cs := (a9.map bu8)) Try.underlying34 rfl sz34 (AF_ev rfl tp) ((List.length_map _).trans hl_a9) (St.cellsOf hst (.there .here) (by rw [h_a9]; exact subF))) ?_
      obtain ⟨r10, h_r10, hF⟩ := lp hF
      refine RW.hard Wd.a ?_
      refine H.call0 Try.func17 nm17 rfl (map2 (AF_ev rfl (up rfl (up rfl tp))) (AF_ev rfl tp)) (Calls.mono (Create_B   a9 hl_a9 r10 h_r10 hst) ?_)
      rintro _ w ⟨rfl, h1q11, h2q11, hst⟩
      refine ⟨_, rfl, ?_⟩
      show RW _ _ _ _ _ _ _
      refine RW.soft Wd.a (v := .tuple #[.int .i64 r10.1, .int .i64 r10.2.1]) (by exact E.move (AF_ev rfl tp)) ?_
      refine RW.soft Wd.a (v := .int .i64 r10.1) (by exact E.extract (vs := #[.int .i64 r10.1, .int .i64 r10.2.1]) (AF_ev rfl tp) rfl) ?_
      refine RW.soft Wd.a (v := .int .i64 r10.2.1) (by exact E.extract (vs := #[.int .i64 r10.1, .int .i64 r10.2.1]) (AF_ev rfl (up rfl tp)) rfl) ?_
      refine RW.soft Wd.a (v := .int .i64 r10.1) (by exact E.assign (AF_ev rfl (up rfl tp))) ?_
      refine RW.soft Wd.a (v := .int .i64 r10.2.1) (by exact E.assign (AF_ev rfl (up rfl tp))) ?_
      refine RW.fin (fun τ => τ 1 = .slice X_o o.length c_o ∧ τ 2 = .pointer (some ⟨b1, 0, none⟩) ∧ τ 4 = .bool false ∧ τ 6 = .pointer (some ⟨b4, 0, none⟩) ∧ τ 7 = .int .i64 r10.1 ∧ τ 31 = .bool false ∧ τ 34 = .bool false) ⟨up rfl (up rfl (up rfl (up rfl (up rfl (up rfl (up rfl (up rfl (up rfl hs1)))))))), up rfl (up rfl (up rfl (up rfl (up rfl (up rfl (up rfl (up rfl (up rfl hs2)))))))), up rfl (up rfl (up rfl (up rfl (up rfl (up rfl (up rfl (up rfl (up rfl hs4)))))))), up rfl (up rfl (up rfl (up rfl (up rfl (up rfl (up rfl (up rfl (up rfl hs6)))))))), up rfl tp, up rfl (up rfl (up rfl (up rfl (up rfl (up rfl (up rfl (up rfl (up rfl hs31)))))))), up rfl (up rfl (up rfl (up rfl (up rfl (up rfl (up rfl (up rfl (up rfl (Eq.trans hs34 (congrArg Value.bool hc8))))))))))⟩ ?_
      rintro τ ⟨hs1, hs2, hs4, hs6, hs7, hs31, hs34⟩
      refine CW.seq ?_
      refine CW.seq ?_
      refine CW.region ?_
      refine RW.soft Wd.a (v := .int .i64 0) (by exact E.assign rfl) ?_
      refine RW.fin (fun τ => τ 1 = .slice X_o o.length c_o ∧ τ 2 = .pointer (some ⟨b1, 0, none⟩) ∧ τ 4 = .bool false ∧ τ 6 = .pointer (some ⟨b4, 0, none⟩) ∧ τ 7 = .int .i64 r10.1 ∧ τ 9 = .int .i64 0 ∧ τ 31 = .bool false ∧ τ 34 = .bool false) ⟨up rfl hs1, up rfl hs2, up rfl hs4, up rfl hs6, up rfl hs7, tp, up rfl hs31, up rfl hs34⟩ ?_
      rintro τ ⟨hs1, hs2, hs4, hs6, hs7, hs9, hs31, hs34⟩
      refine CW.block ?_
      refine CW.loop (fun (k17 : Nat) (τ : Fr) (w : World) => ∃ (s14 : Bool) (i15 : Nat) (ks16 : RKB), EnvUses_l2 t o r10 k17 s14 i15 ks16 = some r ∧ τ 4 = .bool s14 ∧ τ 9 = .int .i64 ((i15 : Nat) : Int) ∧ τ 1 = .slice X_o o.length c_o ∧ τ 2 = .pointer (some ⟨b1, 0, none⟩) ∧ τ 6 = .pointer (some ⟨b4, 0, none⟩) ∧ τ 7 = .int .i64 r10.1 ∧ St p w (KeysB 103 b4 ks16 :: pt b1 (.cells ((t.map bu8)).toArray 45) :: A :: R)) 1099511627776 ?_ ?_
      · skip
        have hst := hst.take (.there (.there .here))
        have hst := hst.take (.there (.there .here))
        have hst := hst.take (.there (.there .here))
        exact ⟨false, 0, r10.2.2, hF, hs4, (int_eq (a := 0) hs9 (by omega)), hs1, hs2, hs6, hs7, hst⟩
      clear hst hF
      rintro k17 τ w ⟨s14, i15, ks16, hF, hs4, hs9, hs1, hs2, hs6, hs7, hst⟩
      obtain ⟨k18, rfl⟩ := EnvUses_l2_pos hF
      rw [EnvUses_l2] at hF
      refine CW.seq ?_
      refine CW.seq ?_
      refine CW.region ?_
      refine RW.soft Wd.a (v := .int .i64 ((i15 : Nat) : Int)) (by exact E.move (AF_ev rfl hs9)) ?_
      refine RW.soft Wd.a (v := .bool (decide (((i15 : Nat) : Int) < 16))) (by exact E.lss (k := .i64) (a := ((i15 : Nat) : Int)) (b := 16) (AF_ev rfl tp) rfl) ?_
      refine RW.fin (fun τ => τ 1 = .slice X_o o.length c_o ∧ τ 2 = .pointer (some ⟨b1, 0, none⟩) ∧ τ 4 = .bool s14 ∧ τ 6 = .pointer (some ⟨b4, 0, none⟩) ∧ τ 7 = .int .i64 r10.1 ∧ τ 9 = .int .i64 ((i15 : Nat) : Int) ∧ τ 43 = .bool (decide (((i15 : Nat) : Int) < 16))) ⟨up rfl (up rfl hs1), up rfl (up rfl hs2), up rfl (up rfl hs4), up rfl (up rfl hs6), up rfl (up rfl hs7), up rfl (up rfl hs9), tp⟩ ?_
      rintro τ ⟨hs1, hs2, hs4, hs6, hs7, hs9, hs43⟩
      refine CW.cond (AF_ev rfl hs43) (fun hc19 => ?_) (fun hc19 => ?_)
      · have hF := ct hc19 hF
        have hc19_ := hc19
        try simp only [decide_eq_true_eq] at hc19_
        refine CW.skip ?_
        refine Th.n ?_
        refine CW.seq ?_
        refine CW.block ?_
        refine CW.seq ?_
        refine CW.region ?_
        refine RW.soft Wd.a (v := .pointer (some ⟨b4, 0, none⟩)) (by exact E.move (AF_ev rfl hs6)) ?_
        refine RW.soft Wd.a (v := .int .i64 r10.1) (by exact E.move (AF_ev rfl (up rfl hs7))) ?_
        refine RW.soft Wd.a (v := .slice X_o o.length c_o) (by exact E.move (AF_ev rfl (up rfl (up rfl hs1)))) ?_
        obtain ⟨r20, h_r20, hF⟩ := bd hF
        have hst := hst.take (.there (.there .here))
        have hst := hst.take (.there .here)
        refine RW.hard Wd.a ?_
        refine H.call0 Try.func18 nm18 rfl (map4 (AF_ev rfl (up rfl (up rfl tp))) (AF_ev rfl (up rfl tp)) (AF_ev rfl tp) rfl) (Calls.mono (Encrypt_C (A := A) ks16 r10.1 (by omega) o (by first | omega | (simp; done)) (fun w H s => (hS_o _ _ s)) ([] : List (BitVec 8)) (by first | omega | (simp; done)) (fun w H s => Src.nil) r20 h_r20 hst) ?_)
        rintro _ w ⟨Xq21_0, cq21_0, rfl, hm_q21_0, hr_q21_1, hr_q21_2, hst⟩
        refine ⟨_, rfl, ?_⟩
        show RW _ _ _ _ _ _ _
        refine RW.soft Wd.a (v := .tuple #[.slice Xq21_0 r20.1.length cq21_0, .int .i64 r20.2.1, .int .i64 r20.2.2.1]) (by exact E.move (AF_ev rfl tp)) ?_
        refine RW.soft Wd.a (v := .slice Xq21_0 r20.1.length cq21_0) (by exact E.extract (vs := #[.slice Xq21_0 r20.1.length cq21_0, .int .i64 r20.2.1, .int .i64 r20.2.2.1]) (AF_ev rfl tp) rfl) ?_
        refine RW.soft Wd.a (v := .int .i64 r20.2.1) (by exact E.extract (vs := #[.slice Xq21_0 r20.1.length cq21_0, .int .i64 r20.2.1, .int .i64 r20.2.2.1]) (AF_ev rfl (up rfl tp)) rfl) ?_
        refine RW.soft Wd.a (v := .int .i64 r20.2.2.1) (by exact E.extract (vs := #[.slice Xq21_0 r20.1.length cq21_0, .int .i64 r20.2.1, .int .i64 r20.2.2.1]) (AF_ev rfl (up rfl (up rfl tp))) rfl) ?_
        refine RW.soft Wd.a (v := .slice Xq21_0 r20.1.length cq21_0) (by exact E.assign (AF_ev rfl (up rfl (up rfl tp)))) ?_
        refine RW.soft Wd.a (v := .int .i64 r20.2.1) (by exact E.assign (AF_ev rfl (up rfl (up rfl tp)))) ?_
        refine RW.soft Wd.a (v := .int .i64 r20.2.2.1) (by exact E.assign (AF_ev rfl (up rfl (up rfl tp)))) ?_
        refine RW.fin (fun τ => τ 1 = .slice X_o o.length c_o ∧ τ 2 = .pointer (some ⟨b1, 0, none⟩) ∧ τ 4 = .bool s14 ∧ τ 6 = .pointer (some ⟨b4, 0, none⟩) ∧ τ 7 = .int .i64 r10.1 ∧ τ 9 = .int .i64 ((i15 : Nat) : Int) ∧ τ 10 = .slice Xq21_0 r20.1.length cq21_0 ∧ τ 11 = .int .i64 r20.2.1 ∧ τ 12 = .int .i64 r20.2.2.1 ∧ τ 43 = .bool true) ⟨up rfl (up rfl (up rfl (up rfl (up rfl (up rfl (up rfl (up rfl (up rfl (up rfl (up rfl hs1)))))))))), up rfl (up rfl (up rfl (up rfl (up rfl (up rfl (up rfl (up rfl (up rfl (up rfl (up rfl hs2)))))))))), up rfl (up rfl (up rfl (up rfl (up rfl (up rfl (up rfl (up rfl (up rfl (up rfl (up rfl hs4)))))))))), up rfl (up rfl (up rfl (up rfl (up rfl (up rfl (up rfl (up rfl (up rfl (up rfl (up rfl hs6)))))))))), up rfl (up rfl (up rfl (up rfl (up rfl (up rfl (up rfl (up rfl (up rfl (up rfl (up rfl hs7)))))))))), up rfl (up rfl (up rfl (up rfl (up rfl (up rfl (up rfl (up rfl (up rfl (up rfl (up rfl hs9)))))))))), up rfl (up rfl tp), up rfl tp, tp, up rfl (up rfl (up rfl (up rfl (up rfl (up rfl (up rfl (up rfl (up rfl (up rfl (up rfl (Eq.trans hs43 (congrArg Value.bool hc19))))))))))))⟩ ?_
        rintro τ ⟨hs1, hs2, hs4, hs6, hs7, hs9, hs10, hs11, hs12, hs43⟩
        refine CW.seq ?_
        refine CW.region ?_
        refine RW.soft Wd.a (v := .slice Xq21_0 r20.1.length cq21_0) (by exact E.move (AF_ev rfl hs10)) ?_
        obtain ⟨r22, h_r22, hF⟩ := bd hF
        refine RW.hard Wd.a ?_
        refine H.call0 Try.func13 nm13 rfl (map1 (AF_ev rfl tp)) (Calls.mono (Read_C (A := SL.Own 5 1 (.slice Xq21_0 r20.1.length cq21_0) r20.1.length (r20.1.map bu8)) r20.1 (by first | omega | (simp; done)) (fun w H s => (Own.src s)) r22 h_r22 hst) ?_)
        rintro _ w ⟨Xq23_3, cq23_3, rfl, hr_q23_0, hr_q23_1, hl_q23_2, hm_q23_3, hr_q23_4, hst⟩
        refine ⟨_, rfl, ?_⟩
        show RW _ _ _ _ _ _ _
        refine RW.soft Wd.a (v := .tuple #[.int .i64 r22.1, .int .i64 r22.2.1, .agg ((r22.2.2.1.map bu8)).toArray, .slice Xq23_3 r22.2.2.2.1.length cq23_3, .int .i64 r22.2.2.2.2]) (by exact E.move (AF_ev rfl tp)) ?_
        refine RW.soft Wd.a (v := .int .i64 r22.1) (by exact E.extract (vs := #[.int .i64 r22.1, .int .i64 r22.2.1, .agg ((r22.2.2.1.map bu8)).toArray, .slice Xq23_3 r22.2.2.2.1.length cq23_3, .int .i64 r22.2.2.2.2]) (AF_ev rfl tp) rfl) ?_
        refine RW.soft Wd.a (v := .int .i64 r22.2.1) (by exact E.extract (vs := #[.int .i64 r22.1, .int .i64 r22.2.1, .agg ((r22.2.2.1.map bu8)).toArray, .slice Xq23_3 r22.2.2.2.1.length cq23_3, .int .i64 r22.2.2.2.2]) (AF_ev rfl (up rfl tp)) rfl) ?_
        refine RW.soft Wd.a (v := .agg ((r22.2.2.1.map bu8)).toArray) (by exact E.extract (vs := #[.int .i64 r22.1, .int .i64 r22.2.1, .agg ((r22.2.2.1.map bu8)).toArray, .slice Xq23_3 r22.2.2.2.1.length cq23_3, .int .i64 r22.2.2.2.2]) (AF_ev rfl (up rfl (up rfl tp))) rfl) ?_
        refine RW.soft Wd.a (v := .slice Xq23_3 r22.2.2.2.1.length cq23_3) (by exact E.extract (vs := #[.int .i64 r22.1, .int .i64 r22.2.1, .agg ((r22.2.2.1.map bu8)).toArray, .slice Xq23_3 r22.2.2.2.1.length cq23_3, .int .i64 r22.2.2.2.2]) (AF_ev rfl (up rfl (up rfl (up rfl tp)))) rfl) ?_
        refine RW.soft Wd.a (v := .int .i64 r22.2.2.2.2) (by exact E.extract (vs := #[.int .i64 r22.1, .int .i64 r22.2.1, .agg ((r22.2.2.1.map bu8)).toArray, .slice Xq23_3 r22.2.2.2.1.length cq23_3, .int .i64 r22.2.2.2.2]) (AF_ev rfl (up rfl (up rfl (up rfl (up rfl tp))))) rfl) ?_
        refine RW.hard Wd.a ?_
        refine H.alloc zs24 hst fun b24 w hst => ?_
        refine RW.soft Wd.a (v := .int .i64 r22.1) (by exact E.assign (AF_ev rfl (up rfl (up rfl (up rfl (up rfl (up rfl tp))))))) ?_
        refine RW.soft Wd.a (v := .int .i64 r22.2.1) (by exact E.assign (AF_ev rfl (up rfl (up rfl (up rfl (up rfl (up rfl tp))))))) ?_
        refine RW.hard Wd.a ?_
        refine H.storeL (b := b24) (o := 0) (m := 12) (v := .agg ((r22.2.2.1.map bu8)).toArray) (ys := (r22.2.2.1.map bu8)) (L' := (r22.2.2.1.map bu8)) (AF_ev rfl (up rfl (up rfl tp))) (AF_ev rfl (up rfl (up rfl (up rfl (up rfl (up rfl tp)))))) hst .here sz24 rfl ((List.length_map _).trans hl_q23_2) (ones_map (fun _ => rfl)) (putW (Eq.trans (show (r22.2.2.1.map bu8).length = 12 from ((List.length_map _).trans hl_q23_2)) (Eq.symm (show ((List.replicate 12 0#8).map bu8).length = 12 from ((List.length_map _).trans (List.length_replicate)))))) fun w hst => ?_
        refine RW.soft Wd.a (v := .slice Xq23_3 r22.2.2.2.1.length cq23_3) (by exact E.assign (AF_ev rfl (u0 (up rfl (up rfl (up rfl (up rfl tp))))))) ?_
        refine RW.soft Wd.a (v := .int .i64 r22.2.2.2.2) (by exact E.assign (AF_ev rfl (up rfl (u0 (up rfl (up rfl (up rfl tp))))))) ?_
        refine RW.fin (fun τ => τ 1 = .slice X_o o.length c_o ∧ τ 2 = .pointer (some ⟨b1, 0, none⟩) ∧ τ 4 = .bool s14 ∧ τ 6 = .pointer (some ⟨b4, 0, none⟩) ∧ τ 7 = .int .i64 r10.1 ∧ τ 9 = .int .i64 ((i15 : Nat) : Int) ∧ τ 10 = .slice Xq21_0 r20.1.length cq21_0 ∧ τ 11 = .int .i64 r20.2.1 ∧ τ 12 = .int .i64 r20.2.2.1 ∧ τ 15 = .pointer (some ⟨b24, 0, none⟩) ∧ τ 17 = .int .i64 r22.2.2.2.2 ∧ τ 43 = .bool true) ⟨up rfl (up rfl (u0 (up rfl (up rfl (up rfl (up rfl (up rfl (up rfl (up rfl (up rfl (up rfl (up rfl (up rfl hs1))))))))))))), up rfl (up rfl (u0 (up rfl (up rfl (up rfl (up rfl (up rfl (up rfl (up rfl (up rfl (up rfl (up rfl (up rfl hs2))))))))))))), up rfl (up rfl (u0 (up rfl (up rfl (up rfl (up rfl (up rfl (up rfl (up rfl (up rfl (up rfl (up rfl (up rfl hs4))))))))))))), up rfl (up rfl (u0 (up rfl (up rfl (up rfl (up rfl (up rfl (up rfl (up rfl (up rfl (up rfl (up rfl (up rfl hs6))))))))))))), up rfl (up rfl (u0 (up rfl (up rfl (up rfl (up rfl (up rfl (up rfl (up rfl (up rfl (up rfl (up rfl (up rfl hs7))))))))))))), up rfl (up rfl (u0 (up rfl (up rfl (up rfl (up rfl (up rfl (up rfl (up rfl (up rfl (up rfl (up rfl (up rfl hs9))))))))))))), up rfl (up rfl (u0 (up rfl (up rfl (up rfl (up rfl (up rfl (up rfl (up rfl (up rfl (up rfl (up rfl (up rfl hs10))))))))))))), up rfl (up rfl (u0 (up rfl (up rfl (up rfl (up rfl (up rfl (up rfl (up rfl (up rfl (up rfl (up rfl (up rfl hs11))))))))))))), up rfl (up rfl (u0 (up rfl (up rfl (up rfl (up rfl (up rfl (up rfl (up rfl (up rfl (up rfl (up rfl (up rfl hs12))))))))))))), up rfl (up rfl (u0 (up rfl (up rfl tp)))), tp, up rfl (up rfl (u0 (up rfl (up rfl (up rfl (up rfl (up rfl (up rfl (up rfl (up rfl (up rfl (up rfl (up rfl hs43)))))))))))))⟩ ?_
        rintro τ ⟨hs1, hs2, hs4, hs6, hs7, hs9, hs10, hs11, hs12, hs15, hs17, hs43⟩
        refine CW.seqJ (fun τ w => ∃ (j25 : Bool) (j26 : Bool) (j27 : Bool) (j28 : Bool) (j29 : Bool) (j30 : Bool) (j31 : Bool), EnvUses_j3 t o r10 s14 i15 r20 (fun (s14_ : Bool) (i15_ : Nat) (ks16_ : RKB) => EnvUses_l2 t o r10 k18 s14_ i15_ ks16_) j25 j26 j27 j28 j29 j30 j31 = some r ∧ τ 1 = .slice X_o o.length c_o ∧ τ 2 = .pointer (some ⟨b1, 0, none⟩) ∧ τ 4 = .bool s14 ∧ τ 6 = .pointer (some ⟨b4, 0, none⟩) ∧ τ 7 = .int .i64 r10.1 ∧ τ 9 = .int .i64 ((i15 : Nat) : Int) ∧ τ 10 = .slice Xq21_0 r20.1.length cq21_0 ∧ τ 11 = .int .i64 r20.2.1 ∧ τ 12 = .int .i64 r20.2.2.1 ∧ τ 15 = .pointer (some ⟨b24, 0, none⟩) ∧ τ 17 = .int .i64 r22.2.2.2.2 ∧ τ 43 = .bool true ∧ τ 62 = .int .i64 r20.2.2.1 ∧ τ 63 = .bool j25 ∧ τ 64 = .bool j26 ∧ τ 67 = .bool j27 ∧ τ 68 = .bool j28 ∧ τ 71 = .bool j29 ∧ τ 72 = .bool j30 ∧ τ 78 = .bool j31 ∧ St p w (pt b24 (.cells ((r22.2.2.1.map bu8)).toArray 24) :: KeysB 103 b4 r20.2.2.2 :: A :: pt b1 (.cells ((t.map bu8)).toArray 45) :: SL.Own 5 1 (.slice Xq21_0 r20.1.length cq21_0) r20.1.length (r20.1.map bu8) :: R)) ?_ ?_
        · skip
          refine CW.region ?_
          refine RW.soft Wd.a (v := .int .i64 r20.2.2.1) (by exact E.move (AF_ev rfl hs12)) ?_
          refine RW.soft Wd.a (v := .bool (r20.2.2.1 != 0)) (by exact E.neq (k := .i64) (a := r20.2.2.1) (b := 0) (AF_ev rfl tp) rfl) ?_
          refine RW.soft Wd.a (v := .bool (r20.2.2.1 != 0)) (by exact E.move (AF_ev rfl tp)) ?_
          refine Or.elim (Bool.eq_false_or_eq_true (r20.2.2.1 != 0)) (fun hw32 => ?_) (fun hw32 => ?_)
          · have hF := ct hw32 hF
            have hw32_ := hw32
            try simp only [bne_iff_ne, ne_eq] at hw32_
            refine RW.pass (by exact Wd.no (x := 64) (b := true) rfl (AF_ev rfl (Eq.trans tp (congrArg Value.bool hw32))) rfl) ?_
            refine RW.pass (by exact Wd.no (x := 64) (b := true) rfl (AF_ev rfl (up rfl (Eq.trans tp (congrArg Value.bool hw32)))) rfl) ?_
            refine RW.soft Wd.a (v := .bool true) (by exact E.pickT (AF_ev rfl (up rfl (up rfl (Eq.trans tp (congrArg Value.bool hw32))))) rfl) ?_
            refine RW.soft Wd.a (v := .bool true) (by exact E.move (AF_ev rfl tp)) ?_
            refine RW.pass (by exact Wd.no (x := 68) (b := true) rfl (AF_ev rfl tp) rfl) ?_
            refine RW.pass (by exact Wd.no (x := 68) (b := true) rfl (AF_ev rfl (up rfl tp)) rfl) ?_
            refine RW.soft Wd.a (v := .bool true) (by exact E.pickT (AF_ev rfl (up rfl (up rfl tp))) rfl) ?_
            refine RW.soft Wd.a (v := .bool true) (by exact E.move (AF_ev rfl tp)) ?_
            refine RW.pass (by exact Wd.no (x := 72) (b := true) rfl (AF_ev rfl tp) rfl) ?_
            refine RW.pass (by exact Wd.no (x := 72) (b := true) rfl (AF_ev rfl (up rfl tp)) rfl) ?_
            refine RW.pass (by exact Wd.no (x := 72) (b := true) rfl (AF_ev rfl (up rfl (up rfl tp))) rfl) ?_
            refine RW.pass (by exact Wd.no (x := 72) (b := true) rfl (AF_ev rfl (up rfl (up rfl (up rfl tp)))) rfl) ?_
            refine RW.pass (by exact Wd.no (x := 72) (b := true) rfl (AF_ev rfl (up rfl (up rfl (up rfl (up rfl tp))))) rfl) ?_
            refine RW.soft Wd.a (v := .bool true) (by exact E.pickT (AF_ev rfl (up rfl (up rfl (up rfl (up rfl (up rfl tp)))))) rfl) ?_
            refine RW.nil ?_
            refine Th.n ?_
            have hst := hst.take (.there (.there .here))
            have hst := hst.take (.there (.there (.there (.there (.there .here)))))
            have hst := hst.take (.there (.there (.there (.there (.there .here)))))
            have hst := hst.take (.there (.there (.there (.there (.there .here)))))
            have hst := hst.take (.there (.there (.there (.there .here))))
            have hst := (hst.take (.there (.there (.there (.there (.there .here)))))).drop
            exact ⟨true, true, true, true, true, true, true, hF, up rfl (up rfl (up rfl (up rfl (up rfl (up rfl (up rfl (up rfl (up rfl (up rfl (up rfl (up rfl (up rfl (up rfl (up rfl (up rfl (up rfl hs1)))))))))))))))), up rfl (up rfl (up rfl (up rfl (up rfl (up rfl (up rfl (up rfl (up rfl (up rfl (up rfl (up rfl (up rfl (up rfl (up rfl (up rfl (up rfl hs2)))))))))))))))), up rfl (up rfl (up rfl (up rfl (up rfl (up rfl (up rfl (up rfl (up rfl (up rfl (up rfl (up rfl (up rfl (up rfl (up rfl (up rfl (up rfl hs4)))))))))))))))), up rfl (up rfl (up rfl (up rfl (up rfl (up rfl (up rfl (up rfl (up rfl (up rfl (up rfl (up rfl (up rfl (up rfl (up rfl (up rfl (up rfl hs6)))))))))))))))), up rfl (up rfl (up rfl (up rfl (up rfl (up rfl (up rfl (up rfl (up rfl (up rfl (up rfl (up rfl (up rfl (up rfl (up rfl (up rfl (up rfl hs7)))))))))))))))), up rfl (up rfl (up rfl (up rfl (up rfl (up rfl (up rfl (up rfl (up rfl (up rfl (up rfl (up rfl (up rfl (up rfl (up rfl (up rfl (up rfl hs9)))))))))))))))), up rfl (up rfl (up rfl (up rfl (up rfl (up rfl (up rfl (up rfl (up rfl (up rfl (up rfl (up rfl (up rfl (up rfl (up rfl (up rfl (up rfl hs10)))))))))))))))), up rfl (up rfl (up rfl (up rfl (up rfl (up rfl (up rfl (up rfl (up rfl (up rfl (up rfl (up rfl (up rfl (up rfl (up rfl (up rfl (up rfl hs11)))))))))))))))), up rfl (up rfl (up rfl (up rfl (up rfl (up rfl (up rfl (up rfl (up rfl (up rfl (up rfl (up rfl (up rfl (up rfl (up rfl (up rfl (up rfl hs12)))))))))))))))), up rfl (up rfl (up rfl (up rfl (up rfl (up rfl (up rfl (up rfl (up rfl (up rfl (up rfl (up rfl (up rfl (up rfl (up rfl (up rfl (up rfl hs15)))))))))))))))), up rfl (up rfl (up rfl (up rfl (up rfl (up rfl (up rfl (up rfl (up rfl (up rfl (up rfl (up rfl (up rfl (up rfl (up rfl (up rfl (up rfl hs17)))))))))))))))), up rfl (up rfl (up rfl (up rfl (up rfl (up rfl (up rfl (up rfl (up rfl (up rfl (up rfl (up rfl (up rfl (up rfl (up rfl (up rfl (up rfl hs43)))))))))))))))), up rfl (up rfl (up rfl (up rfl (up rfl (up rfl (up rfl (up rfl (up rfl (up rfl (up rfl (up rfl (up rfl (up rfl (up rfl (up rfl tp))))))))))))))), up rfl (up rfl (up rfl (up rfl (up rfl (up rfl (up rfl (up rfl (up rfl (up rfl (up rfl (up rfl (up rfl (up rfl (up rfl (Eq.trans tp (congrArg Value.bool hw32)))))))))))))))), up rfl (up rfl (up rfl (up rfl (up rfl (up rfl (up rfl (up rfl (up rfl (up rfl (up rfl (up rfl (up rfl (up rfl (Eq.trans tp (congrArg Value.bool hw32))))))))))))))), up rfl (up rfl (up rfl (up rfl (up rfl (up rfl (up rfl (up rfl (up rfl (up rfl (up rfl tp)))))))))), up rfl (up rfl (up rfl (up rfl (up rfl (up rfl (up rfl (up rfl (up rfl (up rfl tp))))))))), up rfl (up rfl (up rfl (up rfl (up rfl (up rfl (up rfl tp)))))), up rfl (up rfl (up rfl (up rfl (up rfl (up rfl tp))))), tp, hst⟩
          · have hF := cf hw32 hF
            have hw32_ := hw32
            try simp only [bne_eq_false_iff_eq] at hw32_
            refine RW.soft (by exact Wd.yes (x := 64) rfl (AF_ev rfl (Eq.trans tp (congrArg Value.bool hw32)))) (v := .int .i64 r20.2.1) (by exact E.move (AF_ev rfl (up rfl (up rfl (up rfl hs11))))) ?_
            refine RW.soft (by exact Wd.yes (x := 64) rfl (AF_ev rfl (up rfl (Eq.trans tp (congrArg Value.bool hw32))))) (v := .bool (r20.2.1 != 1)) (by exact E.neq (k := .i64) (a := r20.2.1) (b := 1) (AF_ev rfl tp) rfl) ?_
            refine RW.soft Wd.a (v := .bool (r20.2.1 != 1)) (by exact E.pickF (AF_ev rfl (up rfl (up rfl (Eq.trans tp (congrArg Value.bool hw32))))) (AF_ev rfl tp)) ?_
            refine RW.soft Wd.a (v := .bool (r20.2.1 != 1)) (by exact E.move (AF_ev rfl tp)) ?_
            refine Or.elim (Bool.eq_false_or_eq_true (r20.2.1 != 1)) (fun hw33 => ?_) (fun hw33 => ?_)
            · have hF := ct hw33 hF
              have hw33_ := hw33
              try simp only [bne_iff_ne, ne_eq] at hw33_
              refine RW.pass (by exact Wd.no (x := 68) (b := true) rfl (AF_ev rfl (Eq.trans tp (congrArg Value.bool hw33))) rfl) ?_
              refine RW.pass (by exact Wd.no (x := 68) (b := true) rfl (AF_ev rfl (up rfl (Eq.trans tp (congrArg Value.bool hw33)))) rfl) ?_
              refine RW.soft Wd.a (v := .bool true) (by exact E.pickT (AF_ev rfl (up rfl (up rfl (Eq.trans tp (congrArg Value.bool hw33))))) rfl) ?_
              refine RW.soft Wd.a (v := .bool true) (by exact E.move (AF_ev rfl tp)) ?_
              refine RW.pass (by exact Wd.no (x := 72) (b := true) rfl (AF_ev rfl tp) rfl) ?_
              refine RW.pass (by exact Wd.no (x := 72) (b := true) rfl (AF_ev rfl (up rfl tp)) rfl) ?_
              refine RW.pass (by exact Wd.no (x := 72) (b := true) rfl (AF_ev rfl (up rfl (up rfl tp))) rfl) ?_
              refine RW.pass (by exact Wd.no (x := 72) (b := true) rfl (AF_ev rfl (up rfl (up rfl (up rfl tp)))) rfl) ?_
              refine RW.pass (by exact Wd.no (x := 72) (b := true) rfl (AF_ev rfl (up rfl (up rfl (up rfl (up rfl tp))))) rfl) ?_
              refine RW.soft Wd.a (v := .bool true) (by exact E.pickT (AF_ev rfl (up rfl (up rfl (up rfl (up rfl (up rfl tp)))))) rfl) ?_
              refine RW.nil ?_
              refine Th.n ?_
              have hst := hst.take (.there (.there .here))
              have hst := hst.take (.there (.there (.there (.there (.there .here)))))
              have hst := hst.take (.there (.there (.there (.there (.there .here)))))
              have hst := hst.take (.there (.there (.there (.there (.there .here)))))
              have hst := hst.take (.there (.there (.there (.there .here))))
              have hst := (hst.take (.there (.there (.there (.there (.there .here)))))).drop
              exact ⟨false, false, true, true, true, true, true, hF, up rfl (up rfl (up rfl (up rfl (up rfl (up rfl (up rfl (up rfl (up rfl (up rfl (up rfl (up rfl (up rfl (up rfl (up rfl (up rfl (up rfl hs1)))))))))))))))), up rfl (up rfl (up rfl (up rfl (up rfl (up rfl (up rfl (up rfl (up rfl (up rfl (up rfl (up rfl (up rfl (up rfl (up rfl (up rfl (up rfl hs2)))))))))))))))), up rfl (up rfl (up rfl (up rfl (up rfl (up rfl (up rfl (up rfl (up rfl (up rfl (up rfl (up rfl (up rfl (up rfl (up rfl (up rfl (up rfl hs4)))))))))))))))), up rfl (up rfl (up rfl (up rfl (up rfl (up rfl (up rfl (up rfl (up rfl (up rfl (up rfl (up rfl (up rfl (up rfl (up rfl (up rfl (up rfl hs6)))))))))))))))), up rfl (up rfl (up rfl (up rfl (up rfl (up rfl (up rfl (up rfl (up rfl (up rfl (up rfl (up rfl (up rfl (up rfl (up rfl (up rfl (up rfl hs7)))))))))))))))), up rfl (up rfl (up rfl (up rfl (up rfl (up rfl (up rfl (up rfl (up rfl (up rfl (up rfl (up rfl (up rfl (up rfl (up rfl (up rfl (up rfl hs9)))))))))))))))), up rfl (up rfl (up rfl (up rfl (up rfl (up rfl (up rfl (up rfl (up rfl (up rfl (up rfl (up rfl (up rfl (up rfl (up rfl (up rfl (up rfl hs10)))))))))))))))), up rfl (up rfl (up rfl (up rfl (up rfl (up rfl (up rfl (up rfl (up rfl (up rfl (up rfl (up rfl (up rfl (up rfl (up rfl (up rfl (up rfl hs11)))))))))))))))), up rfl (up rfl (up rfl (up rfl (up rfl (up rfl (up rfl (up rfl (up rfl (up rfl (up rfl (up rfl (up rfl (up rfl (up rfl (up rfl (up rfl hs12)))))))))))))))), up rfl (up rfl (up rfl (up rfl (up rfl (up rfl (up rfl (up rfl (up rfl (up rfl (up rfl (up rfl (up rfl (up rfl (up rfl (up rfl (up rfl hs15)))))))))))))))), up rfl (up rfl (up rfl (up rfl (up rfl (up rfl (up rfl (up rfl (up rfl (up rfl (up rfl (up rfl (up rfl (up rfl (up rfl (up rfl (up rfl hs17)))))))))))))))), up rfl (up rfl (up rfl (up rfl (up rfl (up rfl (up rfl (up rfl (up rfl (up rfl (up rfl (up rfl (up rfl (up rfl (up rfl (up rfl (up rfl hs43)))))))))))))))), up rfl (up rfl (up rfl (up rfl (up rfl (up rfl (up rfl (up rfl (up rfl (up rfl (up rfl (up rfl (up rfl (up rfl (up rfl (up rfl tp))))))))))))))), up rfl (up rfl (up rfl (up rfl (up rfl (up rfl (up rfl (up rfl (up rfl (up rfl (up rfl (up rfl (up rfl (up rfl (up rfl (Eq.trans tp (congrArg Value.bool hw32)))))))))))))))), up rfl (up rfl (up rfl (up rfl (up rfl (up rfl (up rfl (up rfl (up rfl (up rfl (up rfl (up rfl (up rfl (up rfl (Eq.trans tp (congrArg Value.bool hw32))))))))))))))), up rfl (up rfl (up rfl (up rfl (up rfl (up rfl (up rfl (up rfl (up rfl (up rfl (up rfl (Eq.trans tp (congrArg Value.bool hw33)))))))))))), up rfl (up rfl (up rfl (up rfl (up rfl (up rfl (up rfl (up rfl (up rfl (up rfl (Eq.trans tp (congrArg Value.bool hw33))))))))))), up rfl (up rfl (up rfl (up rfl (up rfl (up rfl (up rfl tp)))))), up rfl (up rfl (up rfl (up rfl (up rfl (up rfl tp))))), tp, hst⟩
            · have hF := cf hw33 hF
              have hw33_ := hw33
              try simp only [bne_eq_false_iff_eq] at hw33_
              refine RW.soft (by exact Wd.yes (x := 68) rfl (AF_ev rfl (Eq.trans tp (congrArg Value.bool hw33)))) (v := .int .i64 r22.2.2.2.2) (by exact E.move (AF_ev rfl (up rfl (up rfl (up rfl (up rfl (up rfl (up rfl (up rfl hs17))))))))) ?_
              refine RW.soft (by exact Wd.yes (x := 68) rfl (AF_ev rfl (up rfl (Eq.trans tp (congrArg Value.bool hw33))))) (v := .bool (r22.2.2.2.2 != 0)) (by exact E.neq (k := .i64) (a := r22.2.2.2.2) (b := 0) (AF_ev rfl tp) rfl) ?_
              refine RW.soft Wd.a (v := .bool (r22.2.2.2.2 != 0)) (by exact E.pickF (AF_ev rfl (up rfl (up rfl (Eq.trans tp (congrArg Value.bool hw33))))) (AF_ev rfl tp)) ?_
              refine RW.soft Wd.a (v := .bool (r22.2.2.2.2 != 0)) (by exact E.move (AF_ev rfl tp)) ?_
              refine Or.elim (Bool.eq_false_or_eq_true (r22.2.2.2.2 != 0)) (fun hw34 => ?_) (fun hw34 => ?_)
              · have hF := ct hw34 hF
                have hw34_ := hw34
                try simp only [bne_iff_ne, ne_eq] at hw34_
                refine RW.pass (by exact Wd.no (x := 72) (b := true) rfl (AF_ev rfl (Eq.trans tp (congrArg Value.bool hw34))) rfl) ?_
                refine RW.pass (by exact Wd.no (x := 72) (b := true) rfl (AF_ev rfl (up rfl (Eq.trans tp (congrArg Value.bool hw34)))) rfl) ?_
                refine RW.pass (by exact Wd.no (x := 72) (b := true) rfl (AF_ev rfl (up rfl (up rfl (Eq.trans tp (congrArg Value.bool hw34))))) rfl) ?_
                refine RW.pass (by exact Wd.no (x := 72) (b := true) rfl (AF_ev rfl (up rfl (up rfl (up rfl (Eq.trans tp (congrArg Value.bool hw34)))))) rfl) ?_
                refine RW.pass (by exact Wd.no (x := 72) (b := true) rfl (AF_ev rfl (up rfl (up rfl (up rfl (up rfl (Eq.trans tp (congrArg Value.bool hw34))))))) rfl) ?_
                refine RW.soft Wd.a (v := .bool true) (by exact E.pickT (AF_ev rfl (up rfl (up rfl (up rfl (up rfl (up rfl (Eq.trans tp (congrArg Value.bool hw34)))))))) rfl) ?_
                refine RW.nil ?_
                refine Th.n ?_
                have hst := hst.take (.there (.there .here))
                have hst := hst.take (.there (.there (.there (.there (.there .here)))))
                have hst := hst.take (.there (.there (.there (.there (.there .here)))))
                have hst := hst.take (.there (.there (.there (.there (.there .here)))))
                have hst := hst.take (.there (.there (.there (.there .here))))
                have hst := (hst.take (.there (.there (.there (.there (.there .here)))))).drop
                exact ⟨false, false, false, false, true, true, true, hF, up rfl (up rfl (up rfl (up rfl (up rfl (up rfl (up rfl (up rfl (up rfl (up rfl (up rfl (up rfl (up rfl (up rfl (up rfl (up rfl (up rfl hs1)))))))))))))))), up rfl (up rfl (up rfl (up rfl (up rfl (up rfl (up rfl (up rfl (up rfl (up rfl (up rfl (up rfl (up rfl (up rfl (up rfl (up rfl (up rfl hs2)))))))))))))))), up rfl (up rfl (up rfl (up rfl (up rfl (up rfl (up rfl (up rfl (up rfl (up rfl (up rfl (up rfl (up rfl (up rfl (up rfl (up rfl (up rfl hs4)))))))))))))))), up rfl (up rfl (up rfl (up rfl (up rfl (up rfl (up rfl (up rfl (up rfl (up rfl (up rfl (up rfl (up rfl (up rfl (up rfl (up rfl (up rfl hs6)))))))))))))))), up rfl (up rfl (up rfl (up rfl (up rfl (up rfl (up rfl (up rfl (up rfl (up rfl (up rfl (up rfl (up rfl (up rfl (up rfl (up rfl (up rfl hs7)))))))))))))))), up rfl (up rfl (up rfl (up rfl (up rfl (up rfl (up rfl (up rfl (up rfl (up rfl (up rfl (up rfl (up rfl (up rfl (up rfl (up rfl (up rfl hs9)))))))))))))))), up rfl (up rfl (up rfl (up rfl (up rfl (up rfl (up rfl (up rfl (up rfl (up rfl (up rfl (up rfl (up rfl (up rfl (up rfl (up rfl (up rfl hs10)))))))))))))))), up rfl (up rfl (up rfl (up rfl (up rfl (up rfl (up rfl (up rfl (up rfl (up rfl (up rfl (up rfl (up rfl (up rfl (up rfl (up rfl (up rfl hs11)))))))))))))))), up rfl (up rfl (up rfl (up rfl (up rfl (up rfl (up rfl (up rfl (up rfl (up rfl (up rfl (up rfl (up rfl (up rfl (up rfl (up rfl (up rfl hs12)))))))))))))))), up rfl (up rfl (up rfl (up rfl (up rfl (up rfl (up rfl (up rfl (up rfl (up rfl (up rfl (up rfl (up rfl (up rfl (up rfl (up rfl (up rfl hs15)))))))))))))))), up rfl (up rfl (up rfl (up rfl (up rfl (up rfl (up rfl (up rfl (up rfl (up rfl (up rfl (up rfl (up rfl (up rfl (up rfl (up rfl (up rfl hs17)))))))))))))))), up rfl (up rfl (up rfl (up rfl (up rfl (up rfl (up rfl (up rfl (up rfl (up rfl (up rfl (up rfl (up rfl (up rfl (up rfl (up rfl (up rfl hs43)))))))))))))))), up rfl (up rfl (up rfl (up rfl (up rfl (up rfl (up rfl (up rfl (up rfl (up rfl (up rfl (up rfl (up rfl (up rfl (up rfl (up rfl tp))))))))))))))), up rfl (up rfl (up rfl (up rfl (up rfl (up rfl (up rfl (up rfl (up rfl (up rfl (up rfl (up rfl (up rfl (up rfl (up rfl (Eq.trans tp (congrArg Value.bool hw32)))))))))))))))), up rfl (up rfl (up rfl (up rfl (up rfl (up rfl (up rfl (up rfl (up rfl (up rfl (up rfl (up rfl (up rfl (up rfl (Eq.trans tp (congrArg Value.bool hw32))))))))))))))), up rfl (up rfl (up rfl (up rfl (up rfl (up rfl (up rfl (up rfl (up rfl (up rfl (up rfl (Eq.trans tp (congrArg Value.bool hw33)))))))))))), up rfl (up rfl (up rfl (up rfl (up rfl (up rfl (up rfl (up rfl (up rfl (up rfl (Eq.trans tp (congrArg Value.bool hw33))))))))))), up rfl (up rfl (up rfl (up rfl (up rfl (up rfl (up rfl (Eq.trans tp (congrArg Value.bool hw34)))))))), up rfl (up rfl (up rfl (up rfl (up rfl (up rfl (Eq.trans tp (congrArg Value.bool hw34))))))), tp, hst⟩
              · have hF := cf hw34 hF
                have hw34_ := hw34
                try simp only [bne_eq_false_iff_eq] at hw34_
                refine RW.soft (by exact Wd.yes (x := 72) rfl (AF_ev rfl (Eq.trans tp (congrArg Value.bool hw34)))) (v := .agg ((r22.2.2.1.map bu8)).toArray) (by exact E.loadN (b := b24) (o := 0) (cs := (r22.2.2.1.map bu8)) Try.underlying24 rfl sz24 (AF_ev rfl (up rfl (up rfl (up rfl (up rfl (up rfl (up rfl (up rfl (up rfl (up rfl (up rfl (up rfl hs15)))))))))))) ((List.length_map _).trans hl_q23_2) (St.cellsOf hst .here allF)) ?_
                refine RW.soft (by exact Wd.yes (x := 72) rfl (AF_ev rfl (up rfl (Eq.trans tp (congrArg Value.bool hw34))))) (v := .int .i64 ((i15 : Nat) : Int)) (by exact E.move (AF_ev rfl (up rfl (up rfl (up rfl (up rfl (up rfl (up rfl (up rfl (up rfl (up rfl (up rfl (up rfl (up rfl hs9)))))))))))))) ?_
                refine RW.soft (by exact Wd.yes (x := 72) rfl (AF_ev rfl (up rfl (up rfl (Eq.trans tp (congrArg Value.bool hw34)))))) (v := .int .u8 ((BitVec.ofInt 8 ((i15 : Nat) : Int)).toNat : Int)) (by exact E.cvIU (z := ((i15 : Nat) : Int)) (by rw [Try.underlying3]; rfl) Try.underlying5 UK.u8 (AF_ev rfl tp)) ?_
                refine RW.soft (by exact Wd.yes (x := 72) rfl (AF_ev rfl (up rfl (up rfl (up rfl (Eq.trans tp (congrArg Value.bool hw34))))))) (v := .agg ((([0#8, 0#8, 0#8, 0#8, 0#8, 0#8, 0#8, 0#8, 0#8, 0#8, 0#8, BitVec.ofInt 8 ((i15 : Nat) : Int)] : List (BitVec 8)).map bu8)).toArray) (by exact E.build (vs := #[(11, .int .u8 ((BitVec.ofInt 8 ((i15 : Nat) : Int)).toNat : Int))]) (bld1 (AF_ev rfl tp)) (by kernel_rfl)) ?_
                refine RW.soft (by exact Wd.yes (x := 72) rfl (AF_ev rfl (up rfl (up rfl (up rfl (up rfl (Eq.trans tp (congrArg Value.bool hw34)))))))) (v := .bool (r22.2.2.1 != ([0#8, 0#8, 0#8, 0#8, 0#8, 0#8, 0#8, 0#8, 0#8, 0#8, 0#8, BitVec.ofInt 8 ((i15 : Nat) : Int)] : List (BitVec 8)))) (by exact E.neqA8 (a := r22.2.2.1) (b := ([0#8, 0#8, 0#8, 0#8, 0#8, 0#8, 0#8, 0#8, 0#8, 0#8, 0#8, BitVec.ofInt 8 ((i15 : Nat) : Int)] : List (BitVec 8))) Try.underlying24 Try.underlying5 (by kernel_rfl) (by kernel_rfl) (by kernel_rfl) (by kernel_rfl) hl_q23_2 (show ([0#8, 0#8, 0#8, 0#8, 0#8, 0#8, 0#8, 0#8, 0#8, 0#8, 0#8, BitVec.ofInt 8 ((i15 : Nat) : Int)] : List (BitVec 8)).length = 12 from rfl) (AF_ev rfl (up rfl (up rfl (up rfl tp)))) (AF_ev rfl tp)) ?_
                refine RW.soft Wd.a (v := .bool (r22.2.2.1 != ([0#8, 0#8, 0#8, 0#8, 0#8, 0#8, 0#8, 0#8, 0#8, 0#8, 0#8, BitVec.ofInt 8 ((i15 : Nat) : Int)] : List (BitVec 8)))) (by exact E.pickF (AF_ev rfl (up rfl (up rfl (up rfl (up rfl (up rfl (Eq.trans tp (congrArg Value.bool hw34)))))))) (AF_ev rfl tp)) ?_
                refine RW.nil ?_
                refine Th.n ?_
                have hst := hst.take (.there (.there .here))
                have hst := hst.take (.there (.there (.there (.there (.there .here)))))
                have hst := hst.take (.there (.there (.there (.there (.there .here)))))
                have hst := hst.take (.there (.there (.there (.there (.there .here)))))
                have hst := hst.take (.there (.there (.there (.there .here))))
                have hst := (hst.take (.there (.there (.there (.there (.there .here)))))).drop
                exact ⟨false, false, false, false, false, false, (r22.2.2.1 != ([0#8, 0#8, 0#8, 0#8, 0#8, 0#8, 0#8, 0#8, 0#8, 0#8, 0#8, BitVec.ofInt 8 ((i15 : Nat) : Int)] : List (BitVec 8))), hF, up rfl (up rfl (up rfl (up rfl (up rfl (up rfl (up rfl (up rfl (up rfl (up rfl (up rfl (up rfl (up rfl (up rfl (up rfl (up rfl (up rfl hs1)))))))))))))))), up rfl (up rfl (up rfl (up rfl (up rfl (up rfl (up rfl (up rfl (up rfl (up rfl (up rfl (up rfl (up rfl (up rfl (up rfl (up rfl (up rfl hs2)))))))))))))))), up rfl (up rfl (up rfl (up rfl (up rfl (up rfl (up rfl (up rfl (up rfl (up rfl (up rfl (up rfl (up rfl (up rfl (up rfl (up rfl (up rfl hs4)))))))))))))))), up rfl (up rfl (up rfl (up rfl (up rfl (up rfl (up rfl (up rfl (up rfl (up rfl (up rfl (up rfl (up rfl (up rfl (up rfl (up rfl (up rfl hs6)))))))))))))))), up rfl (up rfl (up rfl (up rfl (up rfl (up rfl (up rfl (up rfl (up rfl (up rfl (up rfl (up rfl (up rfl (up rfl (up rfl (up rfl (up rfl hs7)))))))))))))))), up rfl (up rfl (up rfl (up rfl (up rfl (up rfl (up rfl (up rfl (up rfl (up rfl (up rfl (up rfl (up rfl (up rfl (up rfl (up rfl (up rfl hs9)))))))))))))))), up rfl (up rfl (up rfl (up rfl (up rfl (up rfl (up rfl (up rfl (up rfl (up rfl (up rfl (up rfl (up rfl (up rfl (up rfl (up rfl (up rfl hs10)))))))))))))))), up rfl (up rfl (up rfl (up rfl (up rfl (up rfl (up rfl (up rfl (up rfl (up rfl (up rfl (up rfl (up rfl (up rfl (up rfl (up rfl (up rfl hs11)))))))))))))))), up rfl (up rfl (up rfl (up rfl (up rfl (up rfl (up rfl (up rfl (up rfl (up rfl (up rfl (up rfl (up rfl (up rfl (up rfl (up rfl (up rfl hs12)))))))))))))))), up rfl (up rfl (up rfl (up rfl (up rfl (up rfl (up rfl (up rfl (up rfl (up rfl (up rfl (up rfl (up rfl (up rfl (up rfl (up rfl (up rfl hs15)))))))))))))))), up rfl (up rfl (up rfl (up rfl (up rfl (up rfl (up rfl (up rfl (up rfl (up rfl (up rfl (up rfl (up rfl (up rfl (up rfl (up rfl (up rfl hs17)))))))))))))))), up rfl (up rfl (up rfl (up rfl (up rfl (up rfl (up rfl (up rfl (up rfl (up rfl (up rfl (up rfl (up rfl (up rfl (up rfl (up rfl (up rfl hs43)))))))))))))))), up rfl (up rfl (up rfl (up rfl (up rfl (up rfl (up rfl (up rfl (up rfl (up rfl (up rfl (up rfl (up rfl (up rfl (up rfl (up rfl tp))))))))))))))), up rfl (up rfl (up rfl (up rfl (up rfl (up rfl (up rfl (up rfl (up rfl (up rfl (up rfl (up rfl (up rfl (up rfl (up rfl (Eq.trans tp (congrArg Value.bool hw32)))))))))))))))), up rfl (up rfl (up rfl (up rfl (up rfl (up rfl (up rfl (up rfl (up rfl (up rfl (up rfl (up rfl (up rfl (up rfl (Eq.trans tp (congrArg Value.bool hw32))))))))))))))), up rfl (up rfl (up rfl (up rfl (up rfl (up rfl (up rfl (up rfl (up rfl (up rfl (up rfl (Eq.trans tp (congrArg Value.bool hw33)))))))))))), up rfl (up rfl (up rfl (up rfl (up rfl (up rfl (up rfl (up rfl (up rfl (up rfl (Eq.trans tp (congrArg Value.bool hw33))))))))))), up rfl (up rfl (up rfl (up rfl (up rfl (up rfl (up rfl (Eq.trans tp (congrArg Value.bool hw34)))))))), up rfl (up rfl (up rfl (up rfl (up rfl (up rfl (Eq.trans tp (congrArg Value.bool hw34))))))), tp, hst⟩
        rintro τ w ⟨j25, j26, j27, j28, j29, j30, j31, hF, hs1, hs2, hs4, hs6, hs7, hs9, hs10, hs11, hs12, hs15, hs17, hs43, hs62, hs63, hs64, hs67, hs68, hs71, hs72, hs78, hst⟩
        unfold EnvUses_j3 at hF
        refine CW.cond (AF_ev rfl hs78) (fun hc35 => ?_) (fun hc35 => ?_)
        · have hF := ct hc35 hF
          refine CW.seq ?_
          refine CW.region ?_
          refine RW.soft Wd.a (v := .bool false) (by exact E.assign rfl) ?_
          refine RW.fin (fun τ => τ 1 = .slice X_o o.length c_o ∧ τ 2 = .pointer (some ⟨b1, 0, none⟩) ∧ τ 4 = .bool false ∧ τ 6 = .pointer (some ⟨b4, 0, none⟩) ∧ τ 7 = .int .i64 r10.1 ∧ τ 9 = .int .i64 ((i15 : Nat) : Int) ∧ τ 10 = .slice Xq21_0 r20.1.length cq21_0 ∧ τ 11 = .int .i64 r20.2.1 ∧ τ 12 = .int .i64 r20.2.2.1 ∧ τ 15 = .pointer (some ⟨b24, 0, none⟩) ∧ τ 17 = .int .i64 r22.2.2.2.2 ∧ τ 43 = .bool true ∧ τ 78 = .bool true) ⟨up rfl hs1, up rfl hs2, tp, up rfl hs6, up rfl hs7, up rfl hs9, up rfl hs10, up rfl hs11, up rfl hs12, up rfl hs15, up rfl hs17, up rfl hs43, up rfl (Eq.trans hs78 (congrArg Value.bool hc35))⟩ ?_
          rintro τ ⟨hs1, hs2, hs4, hs6, hs7, hs9, hs10, hs11, hs12, hs15, hs17, hs43, hs78⟩
          refine CW.ret ?_
          refine Bl.r ?_
          refine Th.r ?_
          refine Th.r ?_
          refine Bl.r ?_
          refine Th.r ?_
          refine ret1 (v := .bool false) rfl (by exact (.tmp (AF_ev rfl hs4) .nil)) ?_
          have hst := hst.take (.there (.there .here))
          have hst := (hst.take (.there .here)).drop
          have hst := (hst.take (.there .here)).drop
          have hst := (hst.take (.there .here)).drop
          have hst := (hst.take (.there .here)).drop
          rw [somE hF]
          exact ⟨rfl, hst⟩
        · have hF := cf hc35 hF
          refine CW.skip ?_
          refine Bl.n ?_
          refine Th.n ?_
          refine CW.region ?_
          refine RW.soft Wd.a (v := .int .i64 ((i15 : Nat) : Int)) (by exact E.move (AF_ev rfl hs9)) ?_
          refine RW.soft Wd.a (v := .int .i64 (((i15 : Nat) : Int) + 1)) (by exact E.add (k := .i64) (a := ((i15 : Nat) : Int)) (b := 1) (AF_ev rfl tp) rfl (show IntKind.i64.wrap (((i15 : Nat) : Int) + 1) = ((i15 : Nat) : Int) + 1 from (by rw [IntWalk.i64_in _ (by omega)]))) ?_
          refine RW.soft Wd.a (v := .int .i64 (((i15 : Nat) : Int) + 1)) (by exact E.assign (AF_ev rfl tp)) ?_
          refine RW.nil ?_
          refine Th.n ?_
          have hst := hst.take (.there (.there .here))
          have hst := hst.take (.there (.there (.there .here)))
          have hst := hst.take (.there (.there (.there .here)))
          have hst := (hst.take (.there (.there (.there .here)))).drop
          have hst := (hst.take (.there (.there (.there .here)))).drop
          exact ⟨k18, Nat.lt_succ_self _, s14, (i15 + 1), r20.2.2.2, hF, up rfl (up rfl (up rfl hs4)), (int_eq (a := ((i15 : Nat) : Int) + 1) tp (by omega)), up rfl (up rfl (up rfl hs1)), up rfl (up rfl (up rfl hs2)), up rfl (up rfl (up rfl hs6)), up rfl (up rfl (up rfl hs7)), hst⟩
      · have hF := cf hc19 hF
        have hc19_ := hc19
        try simp only [decide_eq_false_iff_not, Int.not_lt, Int.not_le, gt_iff_lt, ge_iff_le] at hc19_
        refine CW.exit ?_
        refine Th.x ?_
        refine Th.x ?_
        refine Bl.x ?_
        refine Th.n ?_
        refine CW.seq ?_
        refine CW.region ?_
        refine RW.soft Wd.a (v := .pointer (some ⟨b4, 0, none⟩)) (by exact E.move (AF_ev rfl hs6)) ?_
        refine RW.soft Wd.a (v := .int .i64 r10.1) (by exact E.move (AF_ev rfl (up rfl hs7))) ?_
        refine RW.soft Wd.a (v := .slice X_o o.length c_o) (by exact E.move (AF_ev rfl (up rfl (up rfl hs1)))) ?_
        obtain ⟨r36, h_r36, hF⟩ := bd hF
        have hst := hst.take (.there (.there .here))
        have hst := hst.take (.there .here)
        refine RW.hard Wd.a ?_
        refine H.call0 Try.func18 nm18 rfl (map4 (AF_ev rfl (up rfl (up rfl tp))) (AF_ev rfl (up rfl tp)) (AF_ev rfl tp) rfl) (Calls.mono (Encrypt_C (A := A) ks16 r10.1 (by omega) o (by first | omega | (simp; done)) (fun w H s => (hS_o _ _ s)) ([] : List (BitVec 8)) (by first | omega | (simp; done)) (fun w H s => Src.nil) r36 h_r36 hst) ?_)
        rintro _ w ⟨Xq37_0, cq37_0, rfl, hm_q37_0, hr_q37_1, hr_q37_2, hst⟩
        refine ⟨_, rfl, ?_⟩
        show RW _ _ _ _ _ _ _
        refine RW.soft Wd.a (v := .tuple #[.slice Xq37_0 r36.1.length cq37_0, .int .i64 r36.2.1, .int .i64 r36.2.2.1]) (by exact E.move (AF_ev rfl tp)) ?_
        refine RW.soft Wd.a (v := .slice Xq37_0 r36.1.length cq37_0) (by exact E.extract (vs := #[.slice Xq37_0 r36.1.length cq37_0, .int .i64 r36.2.1, .int .i64 r36.2.2.1]) (AF_ev rfl tp) rfl) ?_
        refine RW.soft Wd.a (v := .int .i64 r36.2.1) (by exact E.extract (vs := #[.slice Xq37_0 r36.1.length cq37_0, .int .i64 r36.2.1, .int .i64 r36.2.2.1]) (AF_ev rfl (up rfl tp)) rfl) ?_
        refine RW.soft Wd.a (v := .int .i64 r36.2.2.1) (by exact E.extract (vs := #[.slice Xq37_0 r36.1.length cq37_0, .int .i64 r36.2.1, .int .i64 r36.2.2.1]) (AF_ev rfl (up rfl (up rfl tp))) rfl) ?_
        refine RW.soft Wd.a (v := .slice Xq37_0 r36.1.length cq37_0) (by exact E.assign (AF_ev rfl (up rfl (up rfl tp)))) ?_
        refine RW.soft Wd.a (v := .int .i64 r36.2.1) (by exact E.assign (AF_ev rfl (up rfl (up rfl tp)))) ?_
        refine RW.soft Wd.a (v := .int .i64 r36.2.2.1) (by exact E.assign (AF_ev rfl (up rfl (up rfl tp)))) ?_
        refine RW.fin (fun τ => τ 1 = .slice X_o o.length c_o ∧ τ 2 = .pointer (some ⟨b1, 0, none⟩) ∧ τ 4 = .bool s14 ∧ τ 6 = .pointer (some ⟨b4, 0, none⟩) ∧ τ 7 = .int .i64 r10.1 ∧ τ 9 = .int .i64 ((i15 : Nat) : Int) ∧ τ 20 = .int .i64 r36.2.2.1 ∧ τ 43 = .bool false) ⟨up rfl (up rfl (up rfl (up rfl (up rfl (up rfl (up rfl (up rfl (up rfl (up rfl (up rfl hs1)))))))))), up rfl (up rfl (up rfl (up rfl (up rfl (up rfl (up rfl (up rfl (up rfl (up rfl (up rfl hs2)))))))))), up rfl (up rfl (up rfl (up rfl (up rfl (up rfl (up rfl (up rfl (up rfl (up rfl (up rfl hs4)))))))))), up rfl (up rfl (up rfl (up rfl (up rfl (up rfl (up rfl (up rfl (up rfl (up rfl (up rfl hs6)))))))))), up rfl (up rfl (up rfl (up rfl (up rfl (up rfl (up rfl (up rfl (up rfl (up rfl (up rfl hs7)))))))))), up rfl (up rfl (up rfl (up rfl (up rfl (up rfl (up rfl (up rfl (up rfl (up rfl (up rfl hs9)))))))))), tp, up rfl (up rfl (up rfl (up rfl (up rfl (up rfl (up rfl (up rfl (up rfl (up rfl (up rfl (Eq.trans hs43 (congrArg Value.bool hc19))))))))))))⟩ ?_
        rintro τ ⟨hs1, hs2, hs4, hs6, hs7, hs9, hs20, hs43⟩
        refine CW.seq ?_
        refine CW.region ?_
        refine RW.soft Wd.a (v := .pointer (some ⟨b4, 0, none⟩)) (by exact E.move (AF_ev rfl hs6)) ?_
        refine RW.soft Wd.a (v := .int .i64 r10.1) (by exact E.move (AF_ev rfl (up rfl hs7))) ?_
        refine RW.soft Wd.a (v := .pointer (some ⟨b1, 32, none⟩)) (by exact E.indexAddrA (b := b1) (o := 0) (i := 1) Try.underlying45 sz34 (AF_ev rfl (up rfl (up rfl hs2))) rfl (by omega) (by omega) (by omega)) ?_
        obtain ⟨a38, h_a38, hF⟩ := lp hF
        have hl_a38 : a38.length = 32 := by rw [h_a38]; exact sl_len hl_t (by omega)
        refine RW.soft Wd.a (v := .agg ((a38.map bu8)).toArray) (by exact E.loadN (b := b1) (o := 32) (cs := (a38.map bu8)) Try.underlying34 rfl sz34 (AF_ev rfl tp) ((List.length_map _).trans hl_a38) (St.cellsOf hst (.there (.there (.there .here))) (by rw [h_a38]; exact subF))) ?_
        obtain ⟨r39, h_r39, hF⟩ := lp hF
        have hst := hst.take (.there .here)
        refine RW.hard Wd.a ?_
        refine H.call0 Try.func21 nm21 rfl (map3 (AF_ev rfl (up rfl (up rfl (up rfl tp)))) (AF_ev rfl (up rfl (up rfl tp))) (AF_ev rfl tp)) (Calls.mono (Rotate_B r10.1 (by omega) a38 hl_a38 r39 h_r39 hst) ?_)
        rintro _ w ⟨rfl, h1q40, h2q40, hst⟩
        refine ⟨_, rfl, ?_⟩
        show RW _ _ _ _ _ _ _
        refine RW.fin (fun τ => τ 1 = .slice X_o o.length c_o ∧ τ 2 = .pointer (some ⟨b1, 0, none⟩) ∧ τ 4 = .bool s14 ∧ τ 6 = .pointer (some ⟨b4, 0, none⟩) ∧ τ 7 = .int .i64 r10.1 ∧ τ 9 = .int .i64 ((i15 : Nat) : Int) ∧ τ 20 = .int .i64 r36.2.2.1 ∧ τ 43 = .bool false) ⟨up rfl (up rfl (up rfl (up rfl (up rfl hs1)))), up rfl (up rfl (up rfl (up rfl (up rfl hs2)))), up rfl (up rfl (up rfl (up rfl (up rfl hs4)))), up rfl (up rfl (up rfl (up rfl (up rfl hs6)))), up rfl (up rfl (up rfl (up rfl (up rfl hs7)))), up rfl (up rfl (up rfl (up rfl (up rfl hs9)))), up rfl (up rfl (up rfl (up rfl (up rfl hs20)))), up rfl (up rfl (up rfl (up rfl (up rfl hs43))))⟩ ?_
        rintro τ ⟨hs1, hs2, hs4, hs6, hs7, hs9, hs20, hs43⟩
        refine CW.seq ?_
        refine CW.region ?_
        refine RW.soft Wd.a (v := .pointer (some ⟨b4, 0, none⟩)) (by exact E.move (AF_ev rfl hs6)) ?_
        refine RW.soft Wd.a (v := .int .i64 r10.1) (by exact E.move (AF_ev rfl (up rfl hs7))) ?_
        refine RW.soft Wd.a (v := .slice X_o o.length c_o) (by exact E.move (AF_ev rfl (up rfl (up rfl hs1)))) ?_
        obtain ⟨r41, h_r41, hF⟩ := bd hF
        have hst := hst.take (.there (.there .here))
        have hst := hst.take (.there .here)
        refine RW.hard Wd.a ?_
        refine H.call0 Try.func18 nm18 rfl (map4 (AF_ev rfl (up rfl (up rfl tp))) (AF_ev rfl (up rfl tp)) (AF_ev rfl tp) rfl) (Calls.mono (Encrypt_C (A := A) r39.2.2 r10.1 (by omega) o (by first | omega | (simp; done)) (fun w H s => (hS_o _ _ s)) ([] : List (BitVec 8)) (by first | omega | (simp; done)) (fun w H s => Src.nil) r41 h_r41 hst) ?_)
        rintro _ w ⟨Xq42_0, cq42_0, rfl, hm_q42_0, hr_q42_1, hr_q42_2, hst⟩
        refine ⟨_, rfl, ?_⟩
        show RW _ _ _ _ _ _ _
        refine RW.soft Wd.a (v := .tuple #[.slice Xq42_0 r41.1.length cq42_0, .int .i64 r41.2.1, .int .i64 r41.2.2.1]) (by exact E.move (AF_ev rfl tp)) ?_
        refine RW.soft Wd.a (v := .slice Xq42_0 r41.1.length cq42_0) (by exact E.extract (vs := #[.slice Xq42_0 r41.1.length cq42_0, .int .i64 r41.2.1, .int .i64 r41.2.2.1]) (AF_ev rfl tp) rfl) ?_
        refine RW.soft Wd.a (v := .int .i64 r41.2.1) (by exact E.extract (vs := #[.slice Xq42_0 r41.1.length cq42_0, .int .i64 r41.2.1, .int .i64 r41.2.2.1]) (AF_ev rfl (up rfl tp)) rfl) ?_
        refine RW.soft Wd.a (v := .int .i64 r41.2.2.1) (by exact E.extract (vs := #[.slice Xq42_0 r41.1.length cq42_0, .int .i64 r41.2.1, .int .i64 r41.2.2.1]) (AF_ev rfl (up rfl (up rfl tp))) rfl) ?_
        refine RW.soft Wd.a (v := .slice Xq42_0 r41.1.length cq42_0) (by exact E.assign (AF_ev rfl (up rfl (up rfl tp)))) ?_
        refine RW.soft Wd.a (v := .int .i64 r41.2.1) (by exact E.assign (AF_ev rfl (up rfl (up rfl tp)))) ?_
        refine RW.soft Wd.a (v := .int .i64 r41.2.2.1) (by exact E.assign (AF_ev rfl (up rfl (up rfl tp)))) ?_
        refine RW.fin (fun τ => τ 1 = .slice X_o o.length c_o ∧ τ 2 = .pointer (some ⟨b1, 0, none⟩) ∧ τ 4 = .bool s14 ∧ τ 6 = .pointer (some ⟨b4, 0, none⟩) ∧ τ 7 = .int .i64 r10.1 ∧ τ 9 = .int .i64 ((i15 : Nat) : Int) ∧ τ 20 = .int .i64 r36.2.2.1 ∧ τ 22 = .int .i64 r41.2.1 ∧ τ 23 = .int .i64 r41.2.2.1 ∧ τ 43 = .bool false) ⟨up rfl (up rfl (up rfl (up rfl (up rfl (up rfl (up rfl (up rfl (up rfl (up rfl (up rfl hs1)))))))))), up rfl (up rfl (up rfl (up rfl (up rfl (up rfl (up rfl (up rfl (up rfl (up rfl (up rfl hs2)))))))))), up rfl (up rfl (up rfl (up rfl (up rfl (up rfl (up rfl (up rfl (up rfl (up rfl (up rfl hs4)))))))))), up rfl (up rfl (up rfl (up rfl (up rfl (up rfl (up rfl (up rfl (up rfl (up rfl (up rfl hs6)))))))))), up rfl (up rfl (up rfl (up rfl (up rfl (up rfl (up rfl (up rfl (up rfl (up rfl (up rfl hs7)))))))))), up rfl (up rfl (up rfl (up rfl (up rfl (up rfl (up rfl (up rfl (up rfl (up rfl (up rfl hs9)))))))))), up rfl (up rfl (up rfl (up rfl (up rfl (up rfl (up rfl (up rfl (up rfl (up rfl (up rfl hs20)))))))))), up rfl tp, tp, up rfl (up rfl (up rfl (up rfl (up rfl (up rfl (up rfl (up rfl (up rfl (up rfl (up rfl hs43))))))))))⟩ ?_
        rintro τ ⟨hs1, hs2, hs4, hs6, hs7, hs9, hs20, hs22, hs23, hs43⟩
        refine CW.seqJ (fun τ w => ∃ (j43 : Bool), EnvUses_j4 j43 = some r ∧ τ 4 = .bool j43 ∧ St p w (A :: R)) ?_ ?_
        · skip
          refine CW.region ?_
          refine RW.soft Wd.a (v := .int .i64 r36.2.2.1) (by exact E.move (AF_ev rfl hs20)) ?_
          refine RW.soft Wd.a (v := .bool (r36.2.2.1 == 133)) (by exact E.eql (k := .i64) (a := r36.2.2.1) (b := 133) (AF_ev rfl tp) rfl) ?_
          refine RW.soft Wd.a (v := .bool (r36.2.2.1 == 133)) (by exact E.move (AF_ev rfl tp)) ?_
          refine Or.elim (Bool.eq_false_or_eq_true (r36.2.2.1 == 133)) (fun hw44 => ?_) (fun hw44 => ?_)
          · have hF := ct hw44 hF
            have hw44_ := hw44
            try simp only [beq_iff_eq] at hw44_
            refine RW.soft (by exact Wd.yes (x := 102) rfl (AF_ev rfl (Eq.trans tp (congrArg Value.bool hw44)))) (v := .int .i64 r41.2.2.1) (by exact E.move (AF_ev rfl (up rfl (up rfl (up rfl hs23))))) ?_
            refine RW.soft (by exact Wd.yes (x := 102) rfl (AF_ev rfl (up rfl (Eq.trans tp (congrArg Value.bool hw44))))) (v := .bool (r41.2.2.1 == 0)) (by exact E.eql (k := .i64) (a := r41.2.2.1) (b := 0) (AF_ev rfl tp) rfl) ?_
            refine RW.soft Wd.a (v := .bool (r41.2.2.1 == 0)) (by exact E.pickT (AF_ev rfl (up rfl (up rfl (Eq.trans tp (congrArg Value.bool hw44))))) (AF_ev rfl tp)) ?_
            refine RW.soft Wd.a (v := .bool (r41.2.2.1 == 0)) (by exact E.move (AF_ev rfl tp)) ?_
            refine Or.elim (Bool.eq_false_or_eq_true (r41.2.2.1 == 0)) (fun hw45 => ?_) (fun hw45 => ?_)
            · have hF := ct hw45 hF
              have hw45_ := hw45
              try simp only [beq_iff_eq] at hw45_
              refine RW.soft (by exact Wd.yes (x := 106) rfl (AF_ev rfl (Eq.trans tp (congrArg Value.bool hw45)))) (v := .int .i64 r41.2.1) (by exact E.move (AF_ev rfl (up rfl (up rfl (up rfl (up rfl (up rfl (up rfl (up rfl hs22))))))))) ?_
              refine RW.soft (by exact Wd.yes (x := 106) rfl (AF_ev rfl (up rfl (Eq.trans tp (congrArg Value.bool hw45))))) (v := .bool (r41.2.1 == 2)) (by exact E.eql (k := .i64) (a := r41.2.1) (b := 2) (AF_ev rfl tp) rfl) ?_
              refine RW.soft Wd.a (v := .bool (r41.2.1 == 2)) (by exact E.pickT (AF_ev rfl (up rfl (up rfl (Eq.trans tp (congrArg Value.bool hw45))))) (AF_ev rfl tp)) ?_
              refine RW.soft Wd.a (v := .bool (r41.2.1 == 2)) (by exact E.assign (AF_ev rfl tp)) ?_
              refine RW.nil ?_
              refine Th.n ?_
              have hst := hst.take (.there (.there .here))
              have hst := (hst.take (.there .here)).drop
              have hst := (hst.take (.there .here)).drop
              have hst := (hst.take (.there .here)).drop
              have hst := (hst.take (.there .here)).drop
              exact ⟨(r41.2.1 == 2), hF, tp, hst⟩
            · have hF := cf hw45 hF
              have hw45_ := hw45
              try simp only [beq_eq_false_iff_ne, ne_eq] at hw45_
              refine RW.pass (by exact Wd.no (x := 106) (b := false) rfl (AF_ev rfl (Eq.trans tp (congrArg Value.bool hw45))) rfl) ?_
              refine RW.pass (by exact Wd.no (x := 106) (b := false) rfl (AF_ev rfl (up rfl (Eq.trans tp (congrArg Value.bool hw45)))) rfl) ?_
              refine RW.soft Wd.a (v := .bool false) (by exact E.pickF (AF_ev rfl (up rfl (up rfl (Eq.trans tp (congrArg Value.bool hw45))))) rfl) ?_
              refine RW.soft Wd.a (v := .bool false) (by exact E.assign (AF_ev rfl tp)) ?_
              refine RW.nil ?_
              refine Th.n ?_
              have hst := hst.take (.there (.there .here))
              have hst := (hst.take (.there .here)).drop
              have hst := (hst.take (.there .here)).drop
              have hst := (hst.take (.there .here)).drop
              have hst := (hst.take (.there .here)).drop
              exact ⟨false, hF, tp, hst⟩
          · have hF := cf hw44 hF
            have hw44_ := hw44
            try simp only [beq_eq_false_iff_ne, ne_eq] at hw44_
            refine RW.pass (by exact Wd.no (x := 102) (b := false) rfl (AF_ev rfl (Eq.trans tp (congrArg Value.bool hw44))) rfl) ?_
            refine RW.pass (by exact Wd.no (x := 102) (b := false) rfl (AF_ev rfl (up rfl (Eq.trans tp (congrArg Value.bool hw44)))) rfl) ?_
            refine RW.soft Wd.a (v := .bool false) (by exact E.pickF (AF_ev rfl (up rfl (up rfl (Eq.trans tp (congrArg Value.bool hw44))))) rfl) ?_
            refine RW.soft Wd.a (v := .bool false) (by exact E.move (AF_ev rfl tp)) ?_
            refine RW.pass (by exact Wd.no (x := 106) (b := false) rfl (AF_ev rfl tp) rfl) ?_
            refine RW.pass (by exact Wd.no (x := 106) (b := false) rfl (AF_ev rfl (up rfl tp)) rfl) ?_
            refine RW.soft Wd.a (v := .bool false) (by exact E.pickF (AF_ev rfl (up rfl (up rfl tp))) rfl) ?_
            refine RW.soft Wd.a (v := .bool false) (by exact E.assign (AF_ev rfl tp)) ?_
            refine RW.nil ?_
            refine Th.n ?_
            have hst := hst.take (.there (.there .here))
            have hst := (hst.take (.there .here)).drop
            have hst := (hst.take (.there .here)).drop
            have hst := (hst.take (.there .here)).drop
            have hst := (hst.take (.there .here)).drop
            exact ⟨false, hF, tp, hst⟩
        rintro τ w ⟨j43, hF, hs4, hst⟩
        unfold EnvUses_j4 at hF
        refine CW.ret ?_
        refine ret1 (v := .bool j43) rfl (by exact (.tmp (AF_ev rfl hs4) .nil)) ?_
        rw [somE hF]
        exact ⟨rfl, hst⟩
end Go.Proofs.Ytjpjejldinpcnaa
