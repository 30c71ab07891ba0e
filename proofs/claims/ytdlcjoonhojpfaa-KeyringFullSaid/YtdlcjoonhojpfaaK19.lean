/- The calls of the package keyring, walked through operation by operation. -/
import Derived.Test.YtdlcjoonhojpfaaK18
import Derived.Test.YtdlcjoonhojpfaaK14
import Derived.Test.YtdlcjoonhojpfaaK13
import Derived.Test.YtdlcjoonhojpfaaK12
import Derived.Test.YtdlcjoonhojpfaaK11
import Derived.Test.YtdlcjoonhojpfaaK10
import Derived.Test.YtdlcjoonhojpfaaK9
import Derived.Test.YtdlcjoonhojpfaaK8
import Derived.Test.YtdlcjoonhojpfaaK7
import Derived.Test.YtdlcjoonhojpfaaK6
import Derived.Test.YtdlcjoonhojpfaaK5
import Derived.Test.YtdlcjoonhojpfaaK4
import Derived.Test.YtdlcjoonhojpfaaK3
namespace Go.Proofs.Ytdlcjoonhojpfaa
open Go.RowKit Go.SL Go.K13
attribute [local irreducible] Go.SL.RW Go.SL.CW Go.SL.RD Go.SL.Hd Go.SL.St
set_option linter.unusedVariables false
set_option linter.unusedSimpArgs false



def one (m : K32) : Bool × List Ver := (false, [⟨m, 0, false⟩])
def fullK (m : K32) (n : Nat) : RK := List.replicate n (one m)
theorem full_more {m : K32} {i : Nat} (h : i < 8) : kCreate (fullK m (min i 8)) m = (((i : Nat) : Int) + 1, 0, fullK m (min (i + 1) 8)) := by
  have e : min i 8 = i := by omega
  have e2 : min (i + 1) 8 = i + 1 := by omega
  unfold kCreate fullK
  rw [if_neg (by rw [List.length_replicate]; omega), e, e2, List.length_replicate, List.replicate_succ']; rfl
theorem full_none {m : K32} {i : Nat} (h : ¬ i < 8) : kCreate (fullK m (min i 8)) m = (0, 134, fullK m (min (i + 1) 8)) := by
  have e : min i 8 = 8 := by omega
  have e2 : min (i + 1) 8 = 8 := by omega
  unfold kCreate fullK
  rw [if_pos (by rw [List.length_replicate]; omega), e, e2]
def rotK (m : K32) (a j : Nat) : RK := (false, List.replicate (min (j + 1) 4) ⟨m, 0, false⟩) :: List.replicate (min a 8 - 1) (one m)
theorem rot_start {m : K32} {a : Nat} (h : a ≠ 0) : fullK m (min a 8) = rotK m a 0 := by
  obtain ⟨k, hk⟩ : ∃ k, min a 8 = k + 1 := ⟨min a 8 - 1, by omega⟩
  unfold fullK rotK
  rw [hk, List.replicate_succ]; rfl
theorem rot_more {m : K32} {a j : Nat} (h : j + 1 < 4) : kRotate (rotK m a j) 1 m = (((j : Nat) : Int) + 2, 0, rotK m a (j + 1)) := by
  have e : min (j + 1) 4 = j + 1 := by omega
  have e2 : min (j + 1 + 1) 4 = j + 2 := by omega
  have e1 : kRotate (rotK m a j) 1 m = rRotate (rotK m a j) 1 false (List.replicate (min (j + 1) 4) ⟨m, 0, false⟩) m := rfl
  rw [e1]; unfold rRotate rotK
  rw [if_neg (by rw [List.length_replicate]; omega), e, e2, List.length_replicate, show j + 2 = (j + 1) + 1 from rfl, List.replicate_succ' (n := j + 1)]
  refine Prod.ext ?_ rfl
  show (((j + 1 : Nat) : Int) + 1) = _
  omega
theorem rot_none {m : K32} {a j : Nat} (h : ¬ j + 1 < 4) : kRotate (rotK m a j) 1 m = (0, 134, rotK m a (j + 1)) := by
  have e : min (j + 1) 4 = 4 := by omega
  have e2 : min (j + 1 + 1) 4 = 4 := by omega
  have e1 : kRotate (rotK m a j) 1 m = rRotate (rotK m a j) 1 false (List.replicate (min (j + 1) 4) ⟨m, 0, false⟩) m := rfl
  rw [e1]; unfold rRotate rotK
  rw [if_pos (by rw [List.length_replicate]; omega), e, e2]
theorem rot_len {m : K32} {a j : Nat} (h : a ≠ 0) : (rotK m a j).length = min a 8 := by
  unfold rotK; rw [List.length_cons, List.length_replicate]; omega

theorem full_walk {p : Pers} {w : World} {R : List Assn} (m : K32) (a b : Int) (ha : -9223372036854775808 ≤ a ∧ a ≤ 9223372036854775807) (hb : -9223372036854775808 ≤ b ∧ b ≤ 9223372036854775807) (hst : St p w (R)) :
    Calls Try.prog 10 #[.agg (bk m).toArray, .int .i64 a, .int .i64 b] w fun e w => e = .returned (.bool true) ∧ St p w R := by
  refine enter Try.func10 rfl (by simp) (n := 129) rfl fun τ hτ => ?_
  have hs0 : τ 0 = .agg (bk m).toArray := hτ 0 (by simp)
  have hs1 : τ 1 = .int .i64 a := hτ 1 (by simp)
  have hs2 : τ 2 = .int .i64 b := hτ 2 (by simp)
  clear hτ
  refine CW.seq ?_
  refine CW.region ?_
  refine RW.hard Wd.a ?_
  refine H.box (v := .agg (bk m).toArray) (AF_ev rfl hs0) hst fun b1 w hst => ?_
  refine RW.soft Wd.a (v := .bool false) (by exact E.assign rfl) ?_
  refine RW.fin (fun τ => τ 0 = .agg (bk m).toArray ∧ τ 1 = .int .i64 a ∧ τ 2 = .int .i64 b ∧ τ 3 = .pointer (some ⟨b1, 0, none⟩) ∧ τ 6 = .bool false) ⟨up rfl (up rfl hs0), up rfl (up rfl hs1), up rfl (up rfl hs2), up rfl tp, tp⟩ ?_
  rintro τ ⟨hs0, hs1, hs2, hs3, hs6⟩
  refine CW.seq ?_
  refine CW.region ?_
  refine RW.hard Wd.a ?_
  refine H.call0 Try.func38 nm38 rfl map0 (Calls.mono (shown13 hst) ?_)
  rintro _ w ⟨rfl, hst⟩
  refine ⟨_, rfl, ?_⟩
  show RW _ _ _ _ _ _ _
  refine RW.soft Wd.a (v := .bool true) (by exact E.assign (AF_ev rfl tp)) ?_
  refine RW.fin (fun τ => τ 0 = .agg (bk m).toArray ∧ τ 1 = .int .i64 a ∧ τ 2 = .int .i64 b ∧ τ 3 = .pointer (some ⟨b1, 0, none⟩) ∧ τ 6 = .bool false ∧ τ 7 = .bool true) ⟨up rfl (up rfl hs0), up rfl (up rfl hs1), up rfl (up rfl hs2), up rfl (up rfl hs3), up rfl (up rfl hs6), tp⟩ ?_
  rintro τ ⟨hs0, hs1, hs2, hs3, hs6, hs7⟩
  refine CW.seq ?_
  refine CW.region ?_
  refine RW.hard Wd.a ?_
  refine H.call0 Try.func39 nm39 rfl map0 (Calls.mono (prog_New hst) ?_)
  rintro _ w ⟨k2, rfl, hst⟩
  refine ⟨_, rfl, ?_⟩
  show RW _ _ _ _ _ _ _
  refine RW.soft Wd.a (v := .pointer (some ⟨k2, 0, none⟩)) (by exact E.assign (AF_ev rfl tp)) ?_
  refine RW.fin (fun τ => τ 0 = .agg (bk m).toArray ∧ τ 1 = .int .i64 a ∧ τ 2 = .int .i64 b ∧ τ 3 = .pointer (some ⟨b1, 0, none⟩) ∧ τ 6 = .bool false ∧ τ 7 = .bool true ∧ τ 8 = .pointer (some ⟨k2, 0, none⟩)) ⟨up rfl (up rfl hs0), up rfl (up rfl hs1), up rfl (up rfl hs2), up rfl (up rfl hs3), up rfl (up rfl hs6), up rfl (up rfl hs7), tp⟩ ?_
  rintro τ ⟨hs0, hs1, hs2, hs3, hs6, hs7, hs8⟩
  refine CW.seq ?_
  refine CW.seq ?_
  refine CW.region ?_
  refine RW.soft Wd.a (v := .bool true) (by exact E.move (AF_ev rfl hs7)) ?_
  refine RW.soft Wd.a (v := .bool false) (by exact E.not (b := true) (AF_ev rfl tp)) ?_
  refine RW.soft Wd.a (v := .bool false) (by exact E.move (AF_ev rfl tp)) ?_
  refine RW.soft (by exact Wd.yes (x := 22) rfl (AF_ev rfl tp)) (v := .pointer (some ⟨k2, 0, none⟩)) (by exact E.move (AF_ev rfl (up rfl (up rfl (up rfl hs8))))) ?_
  refine RW.soft (by exact Wd.yes (x := 22) rfl (AF_ev rfl (up rfl tp))) (v := .bool false) (by exact E.eqlP (p := (some ⟨k2, 0, none⟩)) Try.underlying69 (AF_ev rfl tp) rfl) ?_
  refine RW.soft Wd.a (v := .bool false) (by exact E.pickF (AF_ev rfl (up rfl (up rfl tp))) (AF_ev rfl tp)) ?_
  refine RW.fin (fun τ => τ 0 = .agg (bk m).toArray ∧ τ 1 = .int .i64 a ∧ τ 2 = .int .i64 b ∧ τ 3 = .pointer (some ⟨b1, 0, none⟩) ∧ τ 6 = .bool false ∧ τ 7 = .bool true ∧ τ 8 = .pointer (some ⟨k2, 0, none⟩) ∧ τ 25 = .bool false) ⟨up rfl (up rfl (up rfl (up rfl (up rfl (up rfl hs0))))), up rfl (up rfl (up rfl (up rfl (up rfl (up rfl hs1))))), up rfl (up rfl (up rfl (up rfl (up rfl (up rfl hs2))))), up rfl (up rfl (up rfl (up rfl (up rfl (up rfl hs3))))), up rfl (up rfl (up rfl (up rfl (up rfl (up rfl hs6))))), up rfl (up rfl (up rfl (up rfl (up rfl (up rfl hs7))))), up rfl (up rfl (up rfl (up rfl (up rfl (up rfl hs8))))), tp⟩ ?_
  rintro τ ⟨hs0, hs1, hs2, hs3, hs6, hs7, hs8, hs25⟩
  refine CW.condF (AF_ev rfl hs25) ?_
  refine CW.skip ?_
  refine Th.n ?_
  refine CW.seq ?_
  refine CW.region ?_
  refine RW.soft Wd.a (v := .int .i64 a) (by exact E.move (AF_ev rfl hs1)) ?_
  refine RW.hard Wd.a ?_
  refine H.call0 Try.func41 nm41 rfl (map2 (AF_ev rfl tp) rfl) (Calls.mono (kind21 a ha hst) ?_)
  rintro _ w ⟨rfl, hst⟩
  have hk21 := kind21_le a
  refine ⟨_, rfl, ?_⟩
  show RW _ _ _ _ _ _ _
  refine RW.soft Wd.a (v := .int .i64 (((kindF a 21).toNat : Nat) : Int)) (by exact E.assign (AF_ev rfl tp)) ?_
  refine RW.fin (fun τ => τ 0 = .agg (bk m).toArray ∧ τ 1 = .int .i64 a ∧ τ 2 = .int .i64 b ∧ τ 3 = .pointer (some ⟨b1, 0, none⟩) ∧ τ 6 = .bool false ∧ τ 7 = .bool true ∧ τ 8 = .pointer (some ⟨k2, 0, none⟩) ∧ τ 9 = .int .i64 (((kindF a 21).toNat : Nat) : Int) ∧ τ 25 = .bool false) ⟨up rfl (up rfl (up rfl hs0)), up rfl (up rfl (up rfl hs1)), up rfl (up rfl (up rfl hs2)), up rfl (up rfl (up rfl hs3)), up rfl (up rfl (up rfl hs6)), up rfl (up rfl (up rfl hs7)), up rfl (up rfl (up rfl hs8)), tp, up rfl (up rfl (up rfl hs25))⟩ ?_
  rintro τ ⟨hs0, hs1, hs2, hs3, hs6, hs7, hs8, hs9, hs25⟩
  refine CW.seq ?_
  refine CW.region ?_
  refine RW.soft Wd.a (v := .int .i64 b) (by exact E.move (AF_ev rfl hs2)) ?_
  refine RW.hard Wd.a ?_
  refine H.call0 Try.func41 nm41 rfl (map2 (AF_ev rfl tp) rfl) (Calls.mono (kind21 b hb hst) ?_)
  rintro _ w ⟨rfl, hst⟩
  have hk21 := kind21_le b
  refine ⟨_, rfl, ?_⟩
  show RW _ _ _ _ _ _ _
  refine RW.soft Wd.a (v := .int .i64 (((kindF b 21).toNat : Nat) : Int)) (by exact E.assign (AF_ev rfl tp)) ?_
  refine RW.fin (fun τ => τ 0 = .agg (bk m).toArray ∧ τ 1 = .int .i64 a ∧ τ 2 = .int .i64 b ∧ τ 3 = .pointer (some ⟨b1, 0, none⟩) ∧ τ 6 = .bool false ∧ τ 7 = .bool true ∧ τ 8 = .pointer (some ⟨k2, 0, none⟩) ∧ τ 9 = .int .i64 (((kindF a 21).toNat : Nat) : Int) ∧ τ 10 = .int .i64 (((kindF b 21).toNat : Nat) : Int) ∧ τ 25 = .bool false) ⟨up rfl (up rfl (up rfl hs0)), up rfl (up rfl (up rfl hs1)), up rfl (up rfl (up rfl hs2)), up rfl (up rfl (up rfl hs3)), up rfl (up rfl (up rfl hs6)), up rfl (up rfl (up rfl hs7)), up rfl (up rfl (up rfl hs8)), up rfl (up rfl (up rfl hs9)), tp, up rfl (up rfl (up rfl hs25))⟩ ?_
  rintro τ ⟨hs0, hs1, hs2, hs3, hs6, hs7, hs8, hs9, hs10, hs25⟩
  refine CW.seq ?_
  refine CW.seq ?_
  refine CW.region ?_
  refine RW.soft Wd.a (v := .int .i64 0) (by exact E.assign rfl) ?_
  refine RW.fin (fun τ => τ 0 = .agg (bk m).toArray ∧ τ 1 = .int .i64 a ∧ τ 2 = .int .i64 b ∧ τ 3 = .pointer (some ⟨b1, 0, none⟩) ∧ τ 6 = .bool false ∧ τ 7 = .bool true ∧ τ 8 = .pointer (some ⟨k2, 0, none⟩) ∧ τ 9 = .int .i64 (((kindF a 21).toNat : Nat) : Int) ∧ τ 10 = .int .i64 (((kindF b 21).toNat : Nat) : Int) ∧ τ 11 = .int .i64 0 ∧ τ 25 = .bool false) ⟨up rfl hs0, up rfl hs1, up rfl hs2, up rfl hs3, up rfl hs6, up rfl hs7, up rfl hs8, up rfl hs9, up rfl hs10, tp, up rfl hs25⟩ ?_
  rintro τ ⟨hs0, hs1, hs2, hs3, hs6, hs7, hs8, hs9, hs10, hs11, hs25⟩
  refine CW.block ?_
  have hst := hst.take (.there .here)
  have hst := hst.take (.there .here)
  refine CW.loop (fun (k : Nat) (τ : Fr) (w : World) => ∃ (i : Nat), i ≤ (kindF a 21).toNat ∧ k = (kindF a 21).toNat - i ∧ τ 3 = .pointer (some ⟨b1, 0, none⟩) ∧ τ 8 = .pointer (some ⟨k2, 0, none⟩) ∧ τ 9 = .int .i64 (((kindF a 21).toNat : Nat) : Int) ∧ τ 10 = .int .i64 (((kindF b 21).toNat : Nat) : Int) ∧ τ 11 = .int .i64 ((i : Nat) : Int) ∧ St p w (KeysV 127 k2 (fullK m (min i 8)) :: pt b1 (.cells (bk m).toArray 74) :: R)) ((kindF a 21).toNat - 0) ⟨0, by omega, rfl, hs3, hs8, hs9, hs10, (int_eq (a := 0) hs11 (by omega)), hst⟩ ?_
  clear hst
  rintro k τ w ⟨i, hi, hki, hs3, hs8, hs9, hs10, hs11, hst⟩
  refine CW.seq ?_
  refine CW.seq ?_
  refine CW.region ?_
  refine RW.soft Wd.a (v := .int .i64 ((i : Nat) : Int)) (by exact E.move (AF_ev rfl hs11)) ?_
  refine RW.soft Wd.a (v := .int .i64 (((kindF a 21).toNat : Nat) : Int)) (by exact E.move (AF_ev rfl (up rfl hs9))) ?_
  refine RW.soft Wd.a (v := .bool (decide (((i : Nat) : Int) < (((kindF a 21).toNat : Nat) : Int)))) (by exact E.lss (k := .i64) (a := ((i : Nat) : Int)) (b := (((kindF a 21).toNat : Nat) : Int)) (AF_ev rfl (up rfl tp)) (AF_ev rfl tp)) ?_
  refine RW.fin (fun τ => τ 3 = .pointer (some ⟨b1, 0, none⟩) ∧ τ 8 = .pointer (some ⟨k2, 0, none⟩) ∧ τ 9 = .int .i64 (((kindF a 21).toNat : Nat) : Int) ∧ τ 10 = .int .i64 (((kindF b 21).toNat : Nat) : Int) ∧ τ 11 = .int .i64 ((i : Nat) : Int) ∧ τ 32 = .bool (decide (((i : Nat) : Int) < (((kindF a 21).toNat : Nat) : Int)))) ⟨up rfl (up rfl (up rfl hs3)), up rfl (up rfl (up rfl hs8)), up rfl (up rfl (up rfl hs9)), up rfl (up rfl (up rfl hs10)), up rfl (up rfl (up rfl hs11)), tp⟩ ?_
  rintro τ ⟨hs3, hs8, hs9, hs10, hs11, hs32⟩
  refine CW.cond (AF_ev rfl hs32) (fun hc3 => ?_) (fun hc3 => ?_)
  · have hc3_ := hc3
    try simp only [decide_eq_true_eq, decide_eq_false_iff_not, Bool.and_eq_true, Bool.or_eq_true, Bool.and_eq_false_iff, Bool.or_eq_false_iff, Bool.not_eq_true', Bool.not_eq_false', beq_iff_eq, beq_eq_false_iff_ne, bne_iff_ne, bne_eq_false_iff_eq, ne_eq, Int.not_lt, Int.not_le, gt_iff_lt, ge_iff_le] at hc3_
    refine CW.skip ?_
    refine Th.n ?_
    refine CW.seq ?_
    refine CW.block ?_
    refine CW.seq ?_
    refine Or.elim (Bool.eq_false_or_eq_true (decide (i < 8))) (fun hqa8 => ?_) (fun hqa8 => ?_)
    · skip
      refine CW.region ?_
      refine RW.soft Wd.a (v := .pointer (some ⟨k2, 0, none⟩)) (by exact E.move (AF_ev rfl hs8)) ?_
      refine RW.soft Wd.a (v := .agg (bk m).toArray) (by exact E.loadN (b := b1) (o := 0) (cs := bk m) Try.underlying74 rfl sz74 (AF_ev rfl (up rfl hs3)) (bk_len _) (St.cellsOf hst (.there .here) (fun j v hv => by rw [Nat.zero_add]; exact hv))) ?_
      refine RW.hard Wd.a ?_
      refine H.call0 Try.func42 nm42 rfl (map2 (AF_ev rfl (up rfl tp)) (AF_ev rfl tp)) (Calls.mono ((show Calls Try.prog 42 #[.pointer (some ⟨k2, 0, none⟩), .agg (bk m).toArray] w (fun e w => e = .returned (.tuple #[.int .i64 (((i : Nat) : Int) + 1), .int .i64 0]) ∧ St p w (KeysV 127 k2 (fullK m (min (i + 1) 8)) :: pt b1 (.cells (bk m).toArray 74) :: R)) from (by
        have hm := full_more (m := m) (of_decide_eq_true hqa8)
        have hq := prog_Create   m hst
        rw [hm] at hq; exact hq))) ?_)
      rintro _ w ⟨rfl, hst⟩
      refine ⟨_, rfl, ?_⟩
      show RW _ _ _ _ _ _ _
      refine RW.soft Wd.a (v := .tuple #[.int .i64 (((i : Nat) : Int) + 1), .int .i64 0]) (by exact E.move (AF_ev rfl tp)) ?_
      refine RW.soft Wd.a (v := .int .i64 (((i : Nat) : Int) + 1)) (by exact E.extract (vs := #[.int .i64 (((i : Nat) : Int) + 1), .int .i64 0]) (AF_ev rfl tp) rfl) ?_
      refine RW.soft Wd.a (v := .int .i64 0) (by exact E.extract (vs := #[.int .i64 (((i : Nat) : Int) + 1), .int .i64 0]) (AF_ev rfl (up rfl tp)) rfl) ?_
      refine RW.soft Wd.a (v := .int .i64 (((i : Nat) : Int) + 1)) (by exact E.assign (AF_ev rfl (up rfl tp))) ?_
      refine RW.soft Wd.a (v := .int .i64 0) (by exact E.assign (AF_ev rfl (up rfl tp))) ?_
      refine RW.fin (fun τ => τ 3 = .pointer (some ⟨b1, 0, none⟩) ∧ τ 8 = .pointer (some ⟨k2, 0, none⟩) ∧ τ 9 = .int .i64 (((kindF a 21).toNat : Nat) : Int) ∧ τ 10 = .int .i64 (((kindF b 21).toNat : Nat) : Int) ∧ τ 11 = .int .i64 ((i : Nat) : Int) ∧ τ 12 = .int .i64 (((i : Nat) : Int) + 1) ∧ τ 13 = .int .i64 0 ∧ τ 32 = .bool true) ⟨up rfl (up rfl (up rfl (up rfl (up rfl (up rfl (up rfl (up rfl hs3))))))), up rfl (up rfl (up rfl (up rfl (up rfl (up rfl (up rfl (up rfl hs8))))))), up rfl (up rfl (up rfl (up rfl (up rfl (up rfl (up rfl (up rfl hs9))))))), up rfl (up rfl (up rfl (up rfl (up rfl (up rfl (up rfl (up rfl hs10))))))), up rfl (up rfl (up rfl (up rfl (up rfl (up rfl (up rfl (up rfl hs11))))))), up rfl tp, tp, up rfl (up rfl (up rfl (up rfl (up rfl (up rfl (up rfl (up rfl (Eq.trans hs32 (congrArg Value.bool hc3)))))))))⟩ ?_
      rintro τ ⟨hs3, hs8, hs9, hs10, hs11, hs12, hs13, hs32⟩
      refine CW.seq ?_
      refine CW.region ?_
      refine RW.soft Wd.a (v := .int .i64 0) (by exact E.move (AF_ev rfl hs13)) ?_
      refine RW.soft Wd.a (v := .bool true) (by exact E.eql (k := .i64) (a := 0) (b := 0) (AF_ev rfl tp) rfl) ?_
      refine RW.soft Wd.a (v := .int .i64 ((i : Nat) : Int)) (by exact E.move (AF_ev rfl (up rfl (up rfl hs11)))) ?_
      refine RW.soft Wd.a (v := .bool true) (by exact E.b (a := decide (((i : Nat) : Int) < 8)) (E.lss (k := .i64) (a := ((i : Nat) : Int)) (b := 8) (AF_ev rfl tp) rfl) (decide_eq_true (by have := of_decide_eq_true hqa8; omega))) ?_
      refine RW.soft Wd.a (v := .bool false) (by exact E.neqB (a := true) (b := true) Try.underlying4 (AF_ev rfl (up rfl (up rfl tp))) (AF_ev rfl tp)) ?_
      refine RW.soft Wd.a (v := .bool false) (by exact E.move (AF_ev rfl tp)) ?_
      refine RW.soft (by exact Wd.yes (x := 46) rfl (AF_ev rfl tp)) (v := .int .i64 0) (by exact E.move (AF_ev rfl (up rfl (up rfl (up rfl (up rfl (up rfl (up rfl hs13)))))))) ?_
      refine RW.soft (by exact Wd.yes (x := 46) rfl (AF_ev rfl (up rfl tp))) (v := .bool true) (by exact E.eql (k := .i64) (a := 0) (b := 0) (AF_ev rfl tp) rfl) ?_
      refine RW.soft (by exact Wd.yes (x := 46) rfl (AF_ev rfl (up rfl (up rfl tp)))) (v := .bool true) (by exact E.move (AF_ev rfl tp)) ?_
      refine RW.soft (by exact Wd.yes (x := 49) rfl (AF_ev rfl tp)) (v := .int .i64 (((i : Nat) : Int) + 1)) (by exact E.move (AF_ev rfl (up rfl (up rfl (up rfl (up rfl (up rfl (up rfl (up rfl (up rfl (up rfl hs12))))))))))) ?_
      refine RW.soft (by exact Wd.yes (x := 49) rfl (AF_ev rfl (up rfl tp))) (v := .int .i64 ((i : Nat) : Int)) (by exact E.move (AF_ev rfl (up rfl (up rfl (up rfl (up rfl (up rfl (up rfl (up rfl (up rfl (up rfl (up rfl hs11)))))))))))) ?_
      refine RW.soft (by exact Wd.yes (x := 49) rfl (AF_ev rfl (up rfl (up rfl tp)))) (v := .int .i64 (((i : Nat) : Int) + 1)) (by exact E.add (k := .i64) (a := ((i : Nat) : Int)) (b := 1) (AF_ev rfl tp) rfl (show IntKind.i64.wrap (((i : Nat) : Int) + 1) = ((i : Nat) : Int) + 1 from (by rw [IntWalk.i64_in _ (by omega)]))) ?_
      refine RW.soft (by exact Wd.yes (x := 49) rfl (AF_ev rfl (up rfl (up rfl (up rfl tp))))) (v := .bool false) (by exact E.b (a := (((i : Nat) : Int) + 1) != (((i : Nat) : Int) + 1)) (E.neq (k := .i64) (a := ((i : Nat) : Int) + 1) (b := ((i : Nat) : Int) + 1) (AF_ev rfl (up rfl (up rfl tp))) (AF_ev rfl tp)) (by simp)) ?_
      refine RW.soft (by exact Wd.yes (x := 46) rfl (AF_ev rfl (up rfl (up rfl (up rfl (up rfl (up rfl (up rfl (up rfl tp))))))))) (v := .bool false) (by exact E.pickT (AF_ev rfl (up rfl (up rfl (up rfl (up rfl tp))))) (AF_ev rfl tp)) ?_
      refine RW.soft Wd.a (v := .bool false) (by exact E.pickF (AF_ev rfl (up rfl (up rfl (up rfl (up rfl (up rfl (up rfl (up rfl (up rfl tp))))))))) (AF_ev rfl tp)) ?_
      refine RW.soft Wd.a (v := .bool false) (by exact E.move (AF_ev rfl tp)) ?_
      refine RW.soft (by exact Wd.yes (x := 56) rfl (AF_ev rfl tp)) (v := .int .i64 0) (by exact E.move (AF_ev rfl (up rfl (up rfl (up rfl (up rfl (up rfl (up rfl (up rfl (up rfl (up rfl (up rfl (up rfl (up rfl (up rfl (up rfl (up rfl (up rfl hs13)))))))))))))))))) ?_
      refine RW.soft (by exact Wd.yes (x := 56) rfl (AF_ev rfl (up rfl tp))) (v := .bool false) (by exact E.neq (k := .i64) (a := 0) (b := 0) (AF_ev rfl tp) rfl) ?_
      refine RW.soft (by exact Wd.yes (x := 56) rfl (AF_ev rfl (up rfl (up rfl tp)))) (v := .bool false) (by exact E.move (AF_ev rfl tp)) ?_
      refine RW.pass (by exact Wd.no (x := 59) (b := false) rfl (AF_ev rfl tp) rfl) ?_
      refine RW.pass (by exact Wd.no (x := 59) (b := false) rfl (AF_ev rfl (up rfl tp)) rfl) ?_
      refine RW.pass (by exact Wd.no (x := 59) (b := false) rfl (AF_ev rfl (up rfl (up rfl tp))) rfl) ?_
      refine RW.pass (by exact Wd.u (x := 62) rfl (AF_ev rfl tp)) ?_
      refine RW.pass (by exact Wd.u (x := 62) rfl (AF_ev rfl (up rfl tp))) ?_
      refine RW.pass (by exact Wd.no (x := 59) (b := false) rfl (AF_ev rfl (up rfl (up rfl (up rfl (up rfl (up rfl tp)))))) rfl) ?_
      refine RW.soft (by exact Wd.yes (x := 56) rfl (AF_ev rfl (up rfl (up rfl (up rfl (up rfl (up rfl (up rfl (up rfl (up rfl (up rfl tp))))))))))) (v := .bool false) (by exact E.pickF (AF_ev rfl (up rfl (up rfl (up rfl (up rfl (up rfl (up rfl tp))))))) rfl) ?_
      refine RW.soft Wd.a (v := .bool false) (by exact E.pickF (AF_ev rfl (up rfl (up rfl (up rfl (up rfl (up rfl (up rfl (up rfl (up rfl (up rfl (up rfl tp))))))))))) (AF_ev rfl tp)) ?_
      refine RW.fin (fun τ => τ 3 = .pointer (some ⟨b1, 0, none⟩) ∧ τ 8 = .pointer (some ⟨k2, 0, none⟩) ∧ τ 9 = .int .i64 (((kindF a 21).toNat : Nat) : Int) ∧ τ 10 = .int .i64 (((kindF b 21).toNat : Nat) : Int) ∧ τ 11 = .int .i64 ((i : Nat) : Int) ∧ τ 12 = .int .i64 (((i : Nat) : Int) + 1) ∧ τ 13 = .int .i64 0 ∧ τ 32 = .bool true ∧ τ 67 = .bool false) ⟨up rfl (up rfl (up rfl (up rfl (up rfl (up rfl (up rfl (up rfl (up rfl (up rfl (up rfl (up rfl (up rfl (up rfl (up rfl (up rfl (up rfl (up rfl (up rfl (up rfl (up rfl (up rfl (up rfl (up rfl (up rfl (up rfl (up rfl hs3)))))))))))))))))))))))))), up rfl (up rfl (up rfl (up rfl (up rfl (up rfl (up rfl (up rfl (up rfl (up rfl (up rfl (up rfl (up rfl (up rfl (up rfl (up rfl (up rfl (up rfl (up rfl (up rfl (up rfl (up rfl (up rfl (up rfl (up rfl (up rfl (up rfl hs8)))))))))))))))))))))))))), up rfl (up rfl (up rfl (up rfl (up rfl (up rfl (up rfl (up rfl (up rfl (up rfl (up rfl (up rfl (up rfl (up rfl (up rfl (up rfl (up rfl (up rfl (up rfl (up rfl (up rfl (up rfl (up rfl (up rfl (up rfl (up rfl (up rfl hs9)))))))))))))))))))))))))), up rfl (up rfl (up rfl (up rfl (up rfl (up rfl (up rfl (up rfl (up rfl (up rfl (up rfl (up rfl (up rfl (up rfl (up rfl (up rfl (up rfl (up rfl (up rfl (up rfl (up rfl (up rfl (up rfl (up rfl (up rfl (up rfl (up rfl hs10)))))))))))))))))))))))))), up rfl (up rfl (up rfl (up rfl (up rfl (up rfl (up rfl (up rfl (up rfl (up rfl (up rfl (up rfl (up rfl (up rfl (up rfl (up rfl (up rfl (up rfl (up rfl (up rfl (up rfl (up rfl (up rfl (up rfl (up rfl (up rfl (up rfl hs11)))))))))))))))))))))))))), up rfl (up rfl (up rfl (up rfl (up rfl (up rfl (up rfl (up rfl (up rfl (up rfl (up rfl (up rfl (up rfl (up rfl (up rfl (up rfl (up rfl (up rfl (up rfl (up rfl (up rfl (up rfl (up rfl (up rfl (up rfl (up rfl (up rfl hs12)))))))))))))))))))))))))), up rfl (up rfl (up rfl (up rfl (up rfl (up rfl (up rfl (up rfl (up rfl (up rfl (up rfl (up rfl (up rfl (up rfl (up rfl (up rfl (up rfl (up rfl (up rfl (up rfl (up rfl (up rfl (up rfl (up rfl (up rfl (up rfl (up rfl hs13)))))))))))))))))))))))))), up rfl (up rfl (up rfl (up rfl (up rfl (up rfl (up rfl (up rfl (up rfl (up rfl (up rfl (up rfl (up rfl (up rfl (up rfl (up rfl (up rfl (up rfl (up rfl (up rfl (up rfl (up rfl (up rfl (up rfl (up rfl (up rfl (up rfl hs32)))))))))))))))))))))))))), tp⟩ ?_
      rintro τ ⟨hs3, hs8, hs9, hs10, hs11, hs12, hs13, hs32, hs67⟩
      refine CW.condF (AF_ev rfl hs67) ?_
      refine CW.skip ?_
      refine Bl.n ?_
      refine Th.n ?_
      refine CW.region ?_
      refine RW.soft Wd.a (v := .int .i64 ((i : Nat) : Int)) (by exact E.move (AF_ev rfl hs11)) ?_
      refine RW.soft Wd.a (v := .int .i64 (((i : Nat) : Int) + 1)) (by exact E.add (k := .i64) (a := ((i : Nat) : Int)) (b := 1) (AF_ev rfl tp) rfl (show IntKind.i64.wrap (((i : Nat) : Int) + 1) = ((i : Nat) : Int) + 1 from (by rw [IntWalk.i64_in _ (by omega)]))) ?_
      refine RW.soft Wd.a (v := .int .i64 (((i : Nat) : Int) + 1)) (by exact E.assign (AF_ev rfl tp)) ?_
      refine RW.nil ?_
      refine Th.n ?_
      have hst := hst.take (.there .here)
      have hst := hst.take (.there .here)
      exact ⟨(kindF a 21).toNat - (i + 1), by omega, i + 1, (by omega), rfl, up rfl (up rfl (up rfl hs3)), up rfl (up rfl (up rfl hs8)), up rfl (up rfl (up rfl hs9)), up rfl (up rfl (up rfl hs10)), (int_eq (a := ((i : Nat) : Int) + 1) tp (by omega)), hst⟩
    · skip
      refine CW.region ?_
      refine RW.soft Wd.a (v := .pointer (some ⟨k2, 0, none⟩)) (by exact E.move (AF_ev rfl hs8)) ?_
      refine RW.soft Wd.a (v := .agg (bk m).toArray) (by exact E.loadN (b := b1) (o := 0) (cs := bk m) Try.underlying74 rfl sz74 (AF_ev rfl (up rfl hs3)) (bk_len _) (St.cellsOf hst (.there .here) (fun j v hv => by rw [Nat.zero_add]; exact hv))) ?_
      refine RW.hard Wd.a ?_
      refine H.call0 Try.func42 nm42 rfl (map2 (AF_ev rfl (up rfl tp)) (AF_ev rfl tp)) (Calls.mono ((show Calls Try.prog 42 #[.pointer (some ⟨k2, 0, none⟩), .agg (bk m).toArray] w (fun e w => e = .returned (.tuple #[.int .i64 0, .int .i64 134]) ∧ St p w (KeysV 127 k2 (fullK m (min (i + 1) 8)) :: pt b1 (.cells (bk m).toArray 74) :: R)) from (by
        have hm := full_none (m := m) (of_decide_eq_false hqa8)
        have hq := prog_Create   m hst
        rw [hm] at hq; exact hq))) ?_)
      rintro _ w ⟨rfl, hst⟩
      refine ⟨_, rfl, ?_⟩
      show RW _ _ _ _ _ _ _
      refine RW.soft Wd.a (v := .tuple #[.int .i64 0, .int .i64 134]) (by exact E.move (AF_ev rfl tp)) ?_
      refine RW.soft Wd.a (v := .int .i64 0) (by exact E.extract (vs := #[.int .i64 0, .int .i64 134]) (AF_ev rfl tp) rfl) ?_
      refine RW.soft Wd.a (v := .int .i64 134) (by exact E.extract (vs := #[.int .i64 0, .int .i64 134]) (AF_ev rfl (up rfl tp)) rfl) ?_
      refine RW.soft Wd.a (v := .int .i64 0) (by exact E.assign (AF_ev rfl (up rfl tp))) ?_
      refine RW.soft Wd.a (v := .int .i64 134) (by exact E.assign (AF_ev rfl (up rfl tp))) ?_
      refine RW.fin (fun τ => τ 3 = .pointer (some ⟨b1, 0, none⟩) ∧ τ 8 = .pointer (some ⟨k2, 0, none⟩) ∧ τ 9 = .int .i64 (((kindF a 21).toNat : Nat) : Int) ∧ τ 10 = .int .i64 (((kindF b 21).toNat : Nat) : Int) ∧ τ 11 = .int .i64 ((i : Nat) : Int) ∧ τ 12 = .int .i64 0 ∧ τ 13 = .int .i64 134 ∧ τ 32 = .bool true) ⟨up rfl (up rfl (up rfl (up rfl (up rfl (up rfl (up rfl (up rfl hs3))))))), up rfl (up rfl (up rfl (up rfl (up rfl (up rfl (up rfl (up rfl hs8))))))), up rfl (up rfl (up rfl (up rfl (up rfl (up rfl (up rfl (up rfl hs9))))))), up rfl (up rfl (up rfl (up rfl (up rfl (up rfl (up rfl (up rfl hs10))))))), up rfl (up rfl (up rfl (up rfl (up rfl (up rfl (up rfl (up rfl hs11))))))), up rfl tp, tp, up rfl (up rfl (up rfl (up rfl (up rfl (up rfl (up rfl (up rfl (Eq.trans hs32 (congrArg Value.bool hc3)))))))))⟩ ?_
      rintro τ ⟨hs3, hs8, hs9, hs10, hs11, hs12, hs13, hs32⟩
      refine CW.seq ?_
      refine CW.region ?_
      refine RW.soft Wd.a (v := .int .i64 134) (by exact E.move (AF_ev rfl hs13)) ?_
      refine RW.soft Wd.a (v := .bool false) (by exact E.eql (k := .i64) (a := 134) (b := 0) (AF_ev rfl tp) rfl) ?_
      refine RW.soft Wd.a (v := .int .i64 ((i : Nat) : Int)) (by exact E.move (AF_ev rfl (up rfl (up rfl hs11)))) ?_
      refine RW.soft Wd.a (v := .bool false) (by exact E.b (a := decide (((i : Nat) : Int) < 8)) (E.lss (k := .i64) (a := ((i : Nat) : Int)) (b := 8) (AF_ev rfl tp) rfl) (decide_eq_false (by have := of_decide_eq_false hqa8; omega))) ?_
      refine RW.soft Wd.a (v := .bool false) (by exact E.neqB (a := false) (b := false) Try.underlying4 (AF_ev rfl (up rfl (up rfl tp))) (AF_ev rfl tp)) ?_
      refine RW.soft Wd.a (v := .bool false) (by exact E.move (AF_ev rfl tp)) ?_
      refine RW.soft (by exact Wd.yes (x := 46) rfl (AF_ev rfl tp)) (v := .int .i64 134) (by exact E.move (AF_ev rfl (up rfl (up rfl (up rfl (up rfl (up rfl (up rfl hs13)))))))) ?_
      refine RW.soft (by exact Wd.yes (x := 46) rfl (AF_ev rfl (up rfl tp))) (v := .bool false) (by exact E.eql (k := .i64) (a := 134) (b := 0) (AF_ev rfl tp) rfl) ?_
      refine RW.soft (by exact Wd.yes (x := 46) rfl (AF_ev rfl (up rfl (up rfl tp)))) (v := .bool false) (by exact E.move (AF_ev rfl tp)) ?_
      refine RW.pass (by exact Wd.no (x := 49) (b := false) rfl (AF_ev rfl tp) rfl) ?_
      refine RW.pass (by exact Wd.no (x := 49) (b := false) rfl (AF_ev rfl (up rfl tp)) rfl) ?_
      refine RW.pass (by exact Wd.no (x := 49) (b := false) rfl (AF_ev rfl (up rfl (up rfl tp))) rfl) ?_
      refine RW.pass (by exact Wd.no (x := 49) (b := false) rfl (AF_ev rfl (up rfl (up rfl (up rfl tp)))) rfl) ?_
      refine RW.soft (by exact Wd.yes (x := 46) rfl (AF_ev rfl (up rfl (up rfl (up rfl (up rfl (up rfl (up rfl (up rfl tp))))))))) (v := .bool false) (by exact E.pickF (AF_ev rfl (up rfl (up rfl (up rfl (up rfl tp))))) rfl) ?_
      refine RW.soft Wd.a (v := .bool false) (by exact E.pickF (AF_ev rfl (up rfl (up rfl (up rfl (up rfl (up rfl (up rfl (up rfl (up rfl tp))))))))) (AF_ev rfl tp)) ?_
      refine RW.soft Wd.a (v := .bool false) (by exact E.move (AF_ev rfl tp)) ?_
      refine RW.soft (by exact Wd.yes (x := 56) rfl (AF_ev rfl tp)) (v := .int .i64 134) (by exact E.move (AF_ev rfl (up rfl (up rfl (up rfl (up rfl (up rfl (up rfl (up rfl (up rfl (up rfl (up rfl (up rfl (up rfl (up rfl (up rfl (up rfl (up rfl hs13)))))))))))))))))) ?_
      refine RW.soft (by exact Wd.yes (x := 56) rfl (AF_ev rfl (up rfl tp))) (v := .bool true) (by exact E.neq (k := .i64) (a := 134) (b := 0) (AF_ev rfl tp) rfl) ?_
      refine RW.soft (by exact Wd.yes (x := 56) rfl (AF_ev rfl (up rfl (up rfl tp)))) (v := .bool true) (by exact E.move (AF_ev rfl tp)) ?_
      refine RW.soft (by exact Wd.yes (x := 59) rfl (AF_ev rfl tp)) (v := .int .i64 134) (by exact E.move (AF_ev rfl (up rfl (up rfl (up rfl (up rfl (up rfl (up rfl (up rfl (up rfl (up rfl (up rfl (up rfl (up rfl (up rfl (up rfl (up rfl (up rfl (up rfl (up rfl (up rfl hs13))))))))))))))))))))) ?_
      refine RW.soft (by exact Wd.yes (x := 59) rfl (AF_ev rfl (up rfl tp))) (v := .bool false) (by exact E.neq (k := .i64) (a := 134) (b := 134) (AF_ev rfl tp) rfl) ?_
      refine RW.soft (by exact Wd.yes (x := 59) rfl (AF_ev rfl (up rfl (up rfl tp)))) (v := .bool false) (by exact E.move (AF_ev rfl tp)) ?_
      refine RW.soft (by exact Wd.yes (x := 62) rfl (AF_ev rfl tp)) (v := .int .i64 0) (by exact E.move (AF_ev rfl (up rfl (up rfl (up rfl (up rfl (up rfl (up rfl (up rfl (up rfl (up rfl (up rfl (up rfl (up rfl (up rfl (up rfl (up rfl (up rfl (up rfl (up rfl (up rfl (up rfl (up rfl (up rfl hs12)))))))))))))))))))))))) ?_
      refine RW.soft (by exact Wd.yes (x := 62) rfl (AF_ev rfl (up rfl tp))) (v := .bool false) (by exact E.neq (k := .i64) (a := 0) (b := 0) (AF_ev rfl tp) rfl) ?_
      refine RW.soft (by exact Wd.yes (x := 59) rfl (AF_ev rfl (up rfl (up rfl (up rfl (up rfl (up rfl tp))))))) (v := .bool false) (by exact E.pickF (AF_ev rfl (up rfl (up rfl tp))) (AF_ev rfl tp)) ?_
      refine RW.soft (by exact Wd.yes (x := 56) rfl (AF_ev rfl (up rfl (up rfl (up rfl (up rfl (up rfl (up rfl (up rfl (up rfl (up rfl tp))))))))))) (v := .bool false) (by exact E.pickT (AF_ev rfl (up rfl (up rfl (up rfl (up rfl (up rfl (up rfl tp))))))) (AF_ev rfl tp)) ?_
      refine RW.soft Wd.a (v := .bool false) (by exact E.pickF (AF_ev rfl (up rfl (up rfl (up rfl (up rfl (up rfl (up rfl (up rfl (up rfl (up rfl (up rfl tp))))))))))) (AF_ev rfl tp)) ?_
      refine RW.fin (fun τ => τ 3 = .pointer (some ⟨b1, 0, none⟩) ∧ τ 8 = .pointer (some ⟨k2, 0, none⟩) ∧ τ 9 = .int .i64 (((kindF a 21).toNat : Nat) : Int) ∧ τ 10 = .int .i64 (((kindF b 21).toNat : Nat) : Int) ∧ τ 11 = .int .i64 ((i : Nat) : Int) ∧ τ 12 = .int .i64 0 ∧ τ 13 = .int .i64 134 ∧ τ 32 = .bool true ∧ τ 67 = .bool false) ⟨up rfl (up rfl (up rfl (up rfl (up rfl (up rfl (up rfl (up rfl (up rfl (up rfl (up rfl (up rfl (up rfl (up rfl (up rfl (up rfl (up rfl (up rfl (up rfl (up rfl (up rfl (up rfl (up rfl (up rfl (up rfl (up rfl (up rfl hs3)))))))))))))))))))))))))), up rfl (up rfl (up rfl (up rfl (up rfl (up rfl (up rfl (up rfl (up rfl (up rfl (up rfl (up rfl (up rfl (up rfl (up rfl (up rfl (up rfl (up rfl (up rfl (up rfl (up rfl (up rfl (up rfl (up rfl (up rfl (up rfl (up rfl hs8)))))))))))))))))))))))))), up rfl (up rfl (up rfl (up rfl (up rfl (up rfl (up rfl (up rfl (up rfl (up rfl (up rfl (up rfl (up rfl (up rfl (up rfl (up rfl (up rfl (up rfl (up rfl (up rfl (up rfl (up rfl (up rfl (up rfl (up rfl (up rfl (up rfl hs9)))))))))))))))))))))))))), up rfl (up rfl (up rfl (up rfl (up rfl (up rfl (up rfl (up rfl (up rfl (up rfl (up rfl (up rfl (up rfl (up rfl (up rfl (up rfl (up rfl (up rfl (up rfl (up rfl (up rfl (up rfl (up rfl (up rfl (up rfl (up rfl (up rfl hs10)))))))))))))))))))))))))), up rfl (up rfl (up rfl (up rfl (up rfl (up rfl (up rfl (up rfl (up rfl (up rfl (up rfl (up rfl (up rfl (up rfl (up rfl (up rfl (up rfl (up rfl (up rfl (up rfl (up rfl (up rfl (up rfl (up rfl (up rfl (up rfl (up rfl hs11)))))))))))))))))))))))))), up rfl (up rfl (up rfl (up rfl (up rfl (up rfl (up rfl (up rfl (up rfl (up rfl (up rfl (up rfl (up rfl (up rfl (up rfl (up rfl (up rfl (up rfl (up rfl (up rfl (up rfl (up rfl (up rfl (up rfl (up rfl (up rfl (up rfl hs12)))))))))))))))))))))))))), up rfl (up rfl (up rfl (up rfl (up rfl (up rfl (up rfl (up rfl (up rfl (up rfl (up rfl (up rfl (up rfl (up rfl (up rfl (up rfl (up rfl (up rfl (up rfl (up rfl (up rfl (up rfl (up rfl (up rfl (up rfl (up rfl (up rfl hs13)))))))))))))))))))))))))), up rfl (up rfl (up rfl (up rfl (up rfl (up rfl (up rfl (up rfl (up rfl (up rfl (up rfl (up rfl (up rfl (up rfl (up rfl (up rfl (up rfl (up rfl (up rfl (up rfl (up rfl (up rfl (up rfl (up rfl (up rfl (up rfl (up rfl hs32)))))))))))))))))))))))))), tp⟩ ?_
      rintro τ ⟨hs3, hs8, hs9, hs10, hs11, hs12, hs13, hs32, hs67⟩
      refine CW.condF (AF_ev rfl hs67) ?_
      refine CW.skip ?_
      refine Bl.n ?_
      refine Th.n ?_
      refine CW.region ?_
      refine RW.soft Wd.a (v := .int .i64 ((i : Nat) : Int)) (by exact E.move (AF_ev rfl hs11)) ?_
      refine RW.soft Wd.a (v := .int .i64 (((i : Nat) : Int) + 1)) (by exact E.add (k := .i64) (a := ((i : Nat) : Int)) (b := 1) (AF_ev rfl tp) rfl (show IntKind.i64.wrap (((i : Nat) : Int) + 1) = ((i : Nat) : Int) + 1 from (by rw [IntWalk.i64_in _ (by omega)]))) ?_
      refine RW.soft Wd.a (v := .int .i64 (((i : Nat) : Int) + 1)) (by exact E.assign (AF_ev rfl tp)) ?_
      refine RW.nil ?_
      refine Th.n ?_
      have hst := hst.take (.there .here)
      have hst := hst.take (.there .here)
      exact ⟨(kindF a 21).toNat - (i + 1), by omega, i + 1, (by omega), rfl, up rfl (up rfl (up rfl hs3)), up rfl (up rfl (up rfl hs8)), up rfl (up rfl (up rfl hs9)), up rfl (up rfl (up rfl hs10)), (int_eq (a := ((i : Nat) : Int) + 1) tp (by omega)), hst⟩
  · have hc3_ := hc3
    try simp only [decide_eq_true_eq, decide_eq_false_iff_not, Bool.and_eq_true, Bool.or_eq_true, Bool.and_eq_false_iff, Bool.or_eq_false_iff, Bool.not_eq_true', Bool.not_eq_false', beq_iff_eq, beq_eq_false_iff_ne, bne_iff_ne, bne_eq_false_iff_eq, ne_eq, Int.not_lt, Int.not_le, gt_iff_lt, ge_iff_le] at hc3_
    refine CW.exit ?_
    refine Th.x ?_
    refine Th.x ?_
    refine Bl.x ?_
    refine Th.n ?_
    refine CW.seq ?_
    refine CW.seq ?_
    refine Or.elim (Bool.eq_false_or_eq_true (decide ((kindF a 21).toNat = 0))) (fun hqa0 => ?_) (fun hqa0 => ?_)
    · skip
      have hiA : i = (kindF a 21).toNat := by omega
      have hA0 : (kindF a 21).toNat = 0 := of_decide_eq_true hqa0
      rw [hiA, hA0] at hst
      have hst : St p w (KeysV 127 k2 [] :: pt b1 (.cells (bk m).toArray 74) :: R) := hst
      refine CW.region ?_
      refine RW.soft Wd.a (v := .int .i64 0) (by exact E.assign rfl) ?_
      refine RW.fin (fun τ => τ 3 = .pointer (some ⟨b1, 0, none⟩) ∧ τ 8 = .pointer (some ⟨k2, 0, none⟩) ∧ τ 9 = .int .i64 (((kindF a 21).toNat : Nat) : Int) ∧ τ 10 = .int .i64 (((kindF b 21).toNat : Nat) : Int) ∧ τ 11 = .int .i64 ((i : Nat) : Int) ∧ τ 14 = .int .i64 0 ∧ τ 32 = .bool false) ⟨up rfl hs3, up rfl hs8, up rfl hs9, up rfl hs10, up rfl hs11, tp, up rfl (Eq.trans hs32 (congrArg Value.bool hc3))⟩ ?_
      rintro τ ⟨hs3, hs8, hs9, hs10, hs11, hs14, hs32⟩
      refine CW.block ?_
      have hst := hst.take (.there .here)
      have hst := hst.take (.there .here)
      refine CW.loop (fun (k : Nat) (τ : Fr) (w : World) => ∃ (j : Nat), j ≤ (kindF b 21).toNat ∧ k = (kindF b 21).toNat - j ∧ τ 3 = .pointer (some ⟨b1, 0, none⟩) ∧ τ 8 = .pointer (some ⟨k2, 0, none⟩) ∧ τ 9 = .int .i64 (((kindF a 21).toNat : Nat) : Int) ∧ τ 10 = .int .i64 (((kindF b 21).toNat : Nat) : Int) ∧ τ 14 = .int .i64 ((j : Nat) : Int) ∧ St p w (KeysV 127 k2 ([]) :: pt b1 (.cells (bk m).toArray 74) :: R)) ((kindF b 21).toNat - 0) ⟨0, by omega, rfl, hs3, hs8, hs9, hs10, (int_eq (a := 0) hs14 (by omega)), hst⟩ ?_
      clear hst
      rintro k τ w ⟨j, hj, hkj, hs3, hs8, hs9, hs10, hs14, hst⟩
      refine CW.seq ?_
      refine CW.seq ?_
      refine CW.region ?_
      refine RW.soft Wd.a (v := .int .i64 ((j : Nat) : Int)) (by exact E.move (AF_ev rfl hs14)) ?_
      refine RW.soft Wd.a (v := .int .i64 (((kindF b 21).toNat : Nat) : Int)) (by exact E.move (AF_ev rfl (up rfl hs10))) ?_
      refine RW.soft Wd.a (v := .bool (decide (((j : Nat) : Int) < (((kindF b 21).toNat : Nat) : Int)))) (by exact E.lss (k := .i64) (a := ((j : Nat) : Int)) (b := (((kindF b 21).toNat : Nat) : Int)) (AF_ev rfl (up rfl tp)) (AF_ev rfl tp)) ?_
      refine RW.fin (fun τ => τ 3 = .pointer (some ⟨b1, 0, none⟩) ∧ τ 8 = .pointer (some ⟨k2, 0, none⟩) ∧ τ 9 = .int .i64 (((kindF a 21).toNat : Nat) : Int) ∧ τ 10 = .int .i64 (((kindF b 21).toNat : Nat) : Int) ∧ τ 14 = .int .i64 ((j : Nat) : Int) ∧ τ 70 = .bool (decide (((j : Nat) : Int) < (((kindF b 21).toNat : Nat) : Int)))) ⟨up rfl (up rfl (up rfl hs3)), up rfl (up rfl (up rfl hs8)), up rfl (up rfl (up rfl hs9)), up rfl (up rfl (up rfl hs10)), up rfl (up rfl (up rfl hs14)), tp⟩ ?_
      rintro τ ⟨hs3, hs8, hs9, hs10, hs14, hs70⟩
      refine CW.cond (AF_ev rfl hs70) (fun hc4 => ?_) (fun hc4 => ?_)
      · have hc4_ := hc4
        try simp only [decide_eq_true_eq, decide_eq_false_iff_not, Bool.and_eq_true, Bool.or_eq_true, Bool.and_eq_false_iff, Bool.or_eq_false_iff, Bool.not_eq_true', Bool.not_eq_false', beq_iff_eq, beq_eq_false_iff_ne, bne_iff_ne, bne_eq_false_iff_eq, ne_eq, Int.not_lt, Int.not_le, gt_iff_lt, ge_iff_le] at hc4_
        refine CW.skip ?_
        refine Th.n ?_
        refine CW.seq ?_
        refine CW.block ?_
        refine CW.seq ?_
        refine CW.region ?_
        refine RW.soft Wd.a (v := .pointer (some ⟨k2, 0, none⟩)) (by exact E.move (AF_ev rfl hs8)) ?_
        refine RW.soft Wd.a (v := .agg (bk m).toArray) (by exact E.loadN (b := b1) (o := 0) (cs := bk m) Try.underlying74 rfl sz74 (AF_ev rfl (up rfl hs3)) (bk_len _) (St.cellsOf hst (.there .here) (fun j v hv => by rw [Nat.zero_add]; exact hv))) ?_
        refine RW.hard Wd.a ?_
        refine H.call0 Try.func43 nm43 rfl (map3 (AF_ev rfl (up rfl tp)) rfl (AF_ev rfl tp)) (Calls.mono ((show Calls Try.prog 43 #[.pointer (some ⟨k2, 0, none⟩), .int .i64 1, .agg (bk m).toArray] w (fun e w => e = .returned (.tuple #[.int .i64 0, .int .i64 130]) ∧ St p w (KeysV 127 k2 ([]) :: pt b1 (.cells (bk m).toArray 74) :: R)) from (by
          have hm := (show kRotate [] 1 m = (0, 130, []) from rfl)
          have hq := prog_Rotate 1 (by omega) m hst
          rw [hm] at hq; exact hq))) ?_)
        rintro _ w ⟨rfl, hst⟩
        refine ⟨_, rfl, ?_⟩
        show RW _ _ _ _ _ _ _
        refine RW.soft Wd.a (v := .tuple #[.int .i64 0, .int .i64 130]) (by exact E.move (AF_ev rfl tp)) ?_
        refine RW.soft Wd.a (v := .int .i64 0) (by exact E.extract (vs := #[.int .i64 0, .int .i64 130]) (AF_ev rfl tp) rfl) ?_
        refine RW.soft Wd.a (v := .int .i64 130) (by exact E.extract (vs := #[.int .i64 0, .int .i64 130]) (AF_ev rfl (up rfl tp)) rfl) ?_
        refine RW.soft Wd.a (v := .int .i64 0) (by exact E.assign (AF_ev rfl (up rfl tp))) ?_
        refine RW.soft Wd.a (v := .int .i64 130) (by exact E.assign (AF_ev rfl (up rfl tp))) ?_
        refine RW.fin (fun τ => τ 3 = .pointer (some ⟨b1, 0, none⟩) ∧ τ 8 = .pointer (some ⟨k2, 0, none⟩) ∧ τ 9 = .int .i64 (((kindF a 21).toNat : Nat) : Int) ∧ τ 10 = .int .i64 (((kindF b 21).toNat : Nat) : Int) ∧ τ 14 = .int .i64 ((j : Nat) : Int) ∧ τ 15 = .int .i64 0 ∧ τ 16 = .int .i64 130 ∧ τ 70 = .bool true) ⟨up rfl (up rfl (up rfl (up rfl (up rfl (up rfl (up rfl (up rfl hs3))))))), up rfl (up rfl (up rfl (up rfl (up rfl (up rfl (up rfl (up rfl hs8))))))), up rfl (up rfl (up rfl (up rfl (up rfl (up rfl (up rfl (up rfl hs9))))))), up rfl (up rfl (up rfl (up rfl (up rfl (up rfl (up rfl (up rfl hs10))))))), up rfl (up rfl (up rfl (up rfl (up rfl (up rfl (up rfl (up rfl hs14))))))), up rfl tp, tp, up rfl (up rfl (up rfl (up rfl (up rfl (up rfl (up rfl (up rfl (Eq.trans hs70 (congrArg Value.bool hc4)))))))))⟩ ?_
        rintro τ ⟨hs3, hs8, hs9, hs10, hs14, hs15, hs16, hs70⟩
        refine CW.seq ?_
        refine CW.seq ?_
        refine CW.region ?_
        refine RW.soft Wd.a (v := .int .i64 (((kindF a 21).toNat : Nat) : Int)) (by exact E.move (AF_ev rfl hs9)) ?_
        refine RW.soft Wd.a (v := .bool true) (by exact E.b (a := (((kindF a 21).toNat : Nat) : Int) == 0) (E.eql (k := .i64) (a := (((kindF a 21).toNat : Nat) : Int)) (b := 0) (AF_ev rfl tp) rfl) (by have := of_decide_eq_true hqa0; rw [beq_iff_eq]; omega)) ?_
        refine RW.fin (fun τ => τ 3 = .pointer (some ⟨b1, 0, none⟩) ∧ τ 8 = .pointer (some ⟨k2, 0, none⟩) ∧ τ 9 = .int .i64 (((kindF a 21).toNat : Nat) : Int) ∧ τ 10 = .int .i64 (((kindF b 21).toNat : Nat) : Int) ∧ τ 14 = .int .i64 ((j : Nat) : Int) ∧ τ 15 = .int .i64 0 ∧ τ 16 = .int .i64 130 ∧ τ 70 = .bool true ∧ τ 80 = .bool true) ⟨up rfl (up rfl hs3), up rfl (up rfl hs8), up rfl (up rfl hs9), up rfl (up rfl hs10), up rfl (up rfl hs14), up rfl (up rfl hs15), up rfl (up rfl hs16), up rfl (up rfl hs70), tp⟩ ?_
        rintro τ ⟨hs3, hs8, hs9, hs10, hs14, hs15, hs16, hs70, hs80⟩
        refine CW.condT (AF_ev rfl hs80) ?_
        refine CW.seq ?_
        refine CW.seq ?_
        refine CW.region ?_
        refine RW.soft Wd.a (v := .int .i64 130) (by exact E.move (AF_ev rfl hs16)) ?_
        refine RW.soft Wd.a (v := .bool false) (by exact E.neq (k := .i64) (a := 130) (b := 130) (AF_ev rfl tp) rfl) ?_
        refine RW.fin (fun τ => τ 3 = .pointer (some ⟨b1, 0, none⟩) ∧ τ 8 = .pointer (some ⟨k2, 0, none⟩) ∧ τ 9 = .int .i64 (((kindF a 21).toNat : Nat) : Int) ∧ τ 10 = .int .i64 (((kindF b 21).toNat : Nat) : Int) ∧ τ 14 = .int .i64 ((j : Nat) : Int) ∧ τ 15 = .int .i64 0 ∧ τ 16 = .int .i64 130 ∧ τ 70 = .bool true ∧ τ 80 = .bool true ∧ τ 82 = .bool false) ⟨up rfl (up rfl hs3), up rfl (up rfl hs8), up rfl (up rfl hs9), up rfl (up rfl hs10), up rfl (up rfl hs14), up rfl (up rfl hs15), up rfl (up rfl hs16), up rfl (up rfl hs70), up rfl (up rfl hs80), tp⟩ ?_
        rintro τ ⟨hs3, hs8, hs9, hs10, hs14, hs15, hs16, hs70, hs80, hs82⟩
        refine CW.condF (AF_ev rfl hs82) ?_
        refine CW.skip ?_
        refine Th.n ?_
        refine CW.exit ?_
        refine Th.x ?_
        refine Bl.x ?_
        refine Th.n ?_
        refine CW.region ?_
        refine RW.soft Wd.a (v := .int .i64 ((j : Nat) : Int)) (by exact E.move (AF_ev rfl hs14)) ?_
        refine RW.soft Wd.a (v := .int .i64 (((j : Nat) : Int) + 1)) (by exact E.add (k := .i64) (a := ((j : Nat) : Int)) (b := 1) (AF_ev rfl tp) rfl (show IntKind.i64.wrap (((j : Nat) : Int) + 1) = ((j : Nat) : Int) + 1 from (by rw [IntWalk.i64_in _ (by omega)]))) ?_
        refine RW.soft Wd.a (v := .int .i64 (((j : Nat) : Int) + 1)) (by exact E.assign (AF_ev rfl tp)) ?_
        refine RW.nil ?_
        refine Th.n ?_
        have hst := hst.take (.there .here)
        have hst := hst.take (.there .here)
        exact ⟨(kindF b 21).toNat - (j + 1), by omega, j + 1, (by omega), rfl, up rfl (up rfl (up rfl hs3)), up rfl (up rfl (up rfl hs8)), up rfl (up rfl (up rfl hs9)), up rfl (up rfl (up rfl hs10)), (int_eq (a := ((j : Nat) : Int) + 1) tp (by omega)), hst⟩
      · have hc4_ := hc4
        try simp only [decide_eq_true_eq, decide_eq_false_iff_not, Bool.and_eq_true, Bool.or_eq_true, Bool.and_eq_false_iff, Bool.or_eq_false_iff, Bool.not_eq_true', Bool.not_eq_false', beq_iff_eq, beq_eq_false_iff_ne, bne_iff_ne, bne_eq_false_iff_eq, ne_eq, Int.not_lt, Int.not_le, gt_iff_lt, ge_iff_le] at hc4_
        refine CW.exit ?_
        refine Th.x ?_
        refine Th.x ?_
        refine Bl.x ?_
        refine Th.n ?_
        refine CW.seq ?_
        refine CW.region ?_
        refine RW.soft Wd.a (v := .pointer (some ⟨k2, 0, none⟩)) (by exact E.move (AF_ev rfl hs8)) ?_
        refine RW.hard Wd.a ?_
        refine H.call0 Try.func40 nm40 rfl (map1 (AF_ev rfl tp)) (Calls.mono (prog_Rings hst) ?_)
        rintro _ w ⟨vX5, rfl, hst⟩
        obtain ⟨X5, c6, rfl, hcX5⟩ := rowsShape hst
        refine ⟨_, rfl, ?_⟩
        show RW _ _ _ _ _ _ _
        refine RW.soft Wd.a (v := .slice X5 0 c6) (by exact E.assign (AF_ev rfl tp)) ?_
        refine RW.fin (fun τ => τ 3 = .pointer (some ⟨b1, 0, none⟩) ∧ τ 8 = .pointer (some ⟨k2, 0, none⟩) ∧ τ 9 = .int .i64 (((kindF a 21).toNat : Nat) : Int) ∧ τ 10 = .int .i64 (((kindF b 21).toNat : Nat) : Int) ∧ τ 14 = .int .i64 ((j : Nat) : Int) ∧ τ 17 = .slice X5 0 c6 ∧ τ 70 = .bool false) ⟨up rfl (up rfl (up rfl hs3)), up rfl (up rfl (up rfl hs8)), up rfl (up rfl (up rfl hs9)), up rfl (up rfl (up rfl hs10)), up rfl (up rfl (up rfl hs14)), tp, up rfl (up rfl (up rfl (Eq.trans hs70 (congrArg Value.bool hc4))))⟩ ?_
        rintro τ ⟨hs3, hs8, hs9, hs10, hs14, hs17, hs70⟩
        refine CW.seq ?_
        refine CW.region ?_
        refine RW.soft Wd.a (v := .slice X5 0 c6) (by exact E.move (AF_ev rfl hs17)) ?_
        refine RW.soft Wd.a (v := .int .i64 0) (by exact E.lenS (p := X5) (l := 0) (c := c6) Try.underlying71 (AF_ev rfl tp)) ?_
        refine RW.soft Wd.a (v := .int .i64 (((kindF a 21).toNat : Nat) : Int)) (by exact E.move (AF_ev rfl (up rfl (up rfl hs9)))) ?_
        refine RW.soft Wd.a (v := .int .i64 (min (((kindF a 21).toNat : Nat) : Int) 8)) (by exact E.min (k := .i64) (a := (((kindF a 21).toNat : Nat) : Int)) (b := 8) (AF_ev rfl tp) rfl (by rw [Int.min_def]; split <;> split <;> omega)) ?_
        refine RW.soft Wd.a (v := .bool true) (by exact E.b (a := 0 == (min (((kindF a 21).toNat : Nat) : Int) 8)) (E.eql (k := .i64) (a := 0) (b := min (((kindF a 21).toNat : Nat) : Int) 8) (AF_ev rfl (up rfl (up rfl tp))) (AF_ev rfl tp)) (by rw [beq_iff_eq]; omega)) ?_
        refine RW.soft Wd.a (v := .bool true) (by exact E.move (AF_ev rfl tp)) ?_
        refine RW.soft (by exact Wd.yes (x := 114) rfl (AF_ev rfl tp)) (v := .int .i64 (((kindF a 21).toNat : Nat) : Int)) (by exact E.move (AF_ev rfl (up rfl (up rfl (up rfl (up rfl (up rfl (up rfl hs9)))))))) ?_
        refine RW.soft (by exact Wd.yes (x := 114) rfl (AF_ev rfl (up rfl tp))) (v := .bool true) (by exact E.b (a := (((kindF a 21).toNat : Nat) : Int) == 0) (E.eql (k := .i64) (a := (((kindF a 21).toNat : Nat) : Int)) (b := 0) (AF_ev rfl tp) rfl) (by have := of_decide_eq_true hqa0; rw [beq_iff_eq]; omega)) ?_
        refine RW.soft (by exact Wd.yes (x := 114) rfl (AF_ev rfl (up rfl (up rfl tp)))) (v := .bool true) (by exact E.move (AF_ev rfl tp)) ?_
        refine RW.pass (by exact Wd.no (x := 117) (b := true) rfl (AF_ev rfl tp) rfl) ?_
        refine RW.pass (by exact Wd.no (x := 117) (b := true) rfl (AF_ev rfl (up rfl tp)) rfl) ?_
        refine RW.pass (by exact Wd.no (x := 117) (b := true) rfl (AF_ev rfl (up rfl (up rfl tp))) rfl) ?_
        refine RW.pass (by exact Wd.no (x := 117) (b := true) rfl (AF_ev rfl (up rfl (up rfl (up rfl tp)))) rfl) ?_
        refine RW.pass (by exact Wd.no (x := 117) (b := true) rfl (AF_ev rfl (up rfl (up rfl (up rfl (up rfl tp))))) rfl) ?_
        refine RW.pass (by exact Wd.no (x := 117) (b := true) rfl (AF_ev rfl (up rfl (up rfl (up rfl (up rfl (up rfl tp)))))) rfl) ?_
        refine RW.pass (by exact Wd.no (x := 117) (b := true) rfl (AF_ev rfl (up rfl (up rfl (up rfl (up rfl (up rfl (up rfl tp))))))) rfl) ?_
        refine RW.pass (by exact Wd.no (x := 117) (b := true) rfl (AF_ev rfl (up rfl (up rfl (up rfl (up rfl (up rfl (up rfl (up rfl tp)))))))) rfl) ?_
        refine RW.pass (by exact Wd.no (x := 117) (b := true) rfl (AF_ev rfl (up rfl (up rfl (up rfl (up rfl (up rfl (up rfl (up rfl (up rfl tp))))))))) rfl) ?_
        refine RW.soft (by exact Wd.yes (x := 114) rfl (AF_ev rfl (up rfl (up rfl (up rfl (up rfl (up rfl (up rfl (up rfl (up rfl (up rfl (up rfl (up rfl (up rfl tp)))))))))))))) (v := .bool true) (by exact E.pickT (AF_ev rfl (up rfl (up rfl (up rfl (up rfl (up rfl (up rfl (up rfl (up rfl (up rfl tp)))))))))) rfl) ?_
        refine RW.soft Wd.a (v := .bool true) (by exact E.pickT (AF_ev rfl (up rfl (up rfl (up rfl (up rfl (up rfl (up rfl (up rfl (up rfl (up rfl (up rfl (up rfl (up rfl (up rfl tp)))))))))))))) (AF_ev rfl tp)) ?_
        refine RW.soft Wd.a (v := .bool true) (by exact E.assign (AF_ev rfl tp)) ?_
        refine RW.fin (fun τ => τ 3 = .pointer (some ⟨b1, 0, none⟩) ∧ τ 6 = .bool true ∧ τ 8 = .pointer (some ⟨k2, 0, none⟩) ∧ τ 9 = .int .i64 (((kindF a 21).toNat : Nat) : Int) ∧ τ 10 = .int .i64 (((kindF b 21).toNat : Nat) : Int) ∧ τ 14 = .int .i64 ((j : Nat) : Int) ∧ τ 17 = .slice X5 0 c6 ∧ τ 70 = .bool false) ⟨up rfl (up rfl (up rfl (up rfl (up rfl (up rfl (up rfl (up rfl (up rfl (up rfl (up rfl (up rfl (up rfl (up rfl (up rfl (up rfl (up rfl (up rfl (up rfl (up rfl (up rfl hs3)))))))))))))))))))), tp, up rfl (up rfl (up rfl (up rfl (up rfl (up rfl (up rfl (up rfl (up rfl (up rfl (up rfl (up rfl (up rfl (up rfl (up rfl (up rfl (up rfl (up rfl (up rfl (up rfl (up rfl hs8)))))))))))))))))))), up rfl (up rfl (up rfl (up rfl (up rfl (up rfl (up rfl (up rfl (up rfl (up rfl (up rfl (up rfl (up rfl (up rfl (up rfl (up rfl (up rfl (up rfl (up rfl (up rfl (up rfl hs9)))))))))))))))))))), up rfl (up rfl (up rfl (up rfl (up rfl (up rfl (up rfl (up rfl (up rfl (up rfl (up rfl (up rfl (up rfl (up rfl (up rfl (up rfl (up rfl (up rfl (up rfl (up rfl (up rfl hs10)))))))))))))))))))), up rfl (up rfl (up rfl (up rfl (up rfl (up rfl (up rfl (up rfl (up rfl (up rfl (up rfl (up rfl (up rfl (up rfl (up rfl (up rfl (up rfl (up rfl (up rfl (up rfl (up rfl hs14)))))))))))))))))))), up rfl (up rfl (up rfl (up rfl (up rfl (up rfl (up rfl (up rfl (up rfl (up rfl (up rfl (up rfl (up rfl (up rfl (up rfl (up rfl (up rfl (up rfl (up rfl (up rfl (up rfl hs17)))))))))))))))))))), up rfl (up rfl (up rfl (up rfl (up rfl (up rfl (up rfl (up rfl (up rfl (up rfl (up rfl (up rfl (up rfl (up rfl (up rfl (up rfl (up rfl (up rfl (up rfl (up rfl (up rfl hs70))))))))))))))))))))⟩ ?_
        rintro τ ⟨hs3, hs6, hs8, hs9, hs10, hs14, hs17, hs70⟩
        refine CW.ret ?_
        refine ret1 (v := .bool true) rfl (by exact (.tmp (AF_ev rfl hs6) .nil)) ?_
        exact ⟨rfl, hst.drop.drop.drop⟩
    · skip
      have hiA : i = (kindF a 21).toNat := by omega
      have hA0 : (kindF a 21).toNat ≠ 0 := of_decide_eq_false hqa0
      rw [hiA, rot_start hA0] at hst
      refine CW.region ?_
      refine RW.soft Wd.a (v := .int .i64 0) (by exact E.assign rfl) ?_
      refine RW.fin (fun τ => τ 3 = .pointer (some ⟨b1, 0, none⟩) ∧ τ 8 = .pointer (some ⟨k2, 0, none⟩) ∧ τ 9 = .int .i64 (((kindF a 21).toNat : Nat) : Int) ∧ τ 10 = .int .i64 (((kindF b 21).toNat : Nat) : Int) ∧ τ 11 = .int .i64 ((i : Nat) : Int) ∧ τ 14 = .int .i64 0 ∧ τ 32 = .bool false) ⟨up rfl hs3, up rfl hs8, up rfl hs9, up rfl hs10, up rfl hs11, tp, up rfl (Eq.trans hs32 (congrArg Value.bool hc3))⟩ ?_
      rintro τ ⟨hs3, hs8, hs9, hs10, hs11, hs14, hs32⟩
      refine CW.block ?_
      have hst := hst.take (.there .here)
      have hst := hst.take (.there .here)
      refine CW.loop (fun (k : Nat) (τ : Fr) (w : World) => ∃ (j : Nat), j ≤ (kindF b 21).toNat ∧ k = (kindF b 21).toNat - j ∧ τ 3 = .pointer (some ⟨b1, 0, none⟩) ∧ τ 8 = .pointer (some ⟨k2, 0, none⟩) ∧ τ 9 = .int .i64 (((kindF a 21).toNat : Nat) : Int) ∧ τ 10 = .int .i64 (((kindF b 21).toNat : Nat) : Int) ∧ τ 14 = .int .i64 ((j : Nat) : Int) ∧ St p w (KeysV 127 k2 (rotK m (kindF a 21).toNat j) :: pt b1 (.cells (bk m).toArray 74) :: R)) ((kindF b 21).toNat - 0) ⟨0, by omega, rfl, hs3, hs8, hs9, hs10, (int_eq (a := 0) hs14 (by omega)), hst⟩ ?_
      clear hst
      rintro k τ w ⟨j, hj, hkj, hs3, hs8, hs9, hs10, hs14, hst⟩
      refine CW.seq ?_
      refine CW.seq ?_
      refine CW.region ?_
      refine RW.soft Wd.a (v := .int .i64 ((j : Nat) : Int)) (by exact E.move (AF_ev rfl hs14)) ?_
      refine RW.soft Wd.a (v := .int .i64 (((kindF b 21).toNat : Nat) : Int)) (by exact E.move (AF_ev rfl (up rfl hs10))) ?_
      refine RW.soft Wd.a (v := .bool (decide (((j : Nat) : Int) < (((kindF b 21).toNat : Nat) : Int)))) (by exact E.lss (k := .i64) (a := ((j : Nat) : Int)) (b := (((kindF b 21).toNat : Nat) : Int)) (AF_ev rfl (up rfl tp)) (AF_ev rfl tp)) ?_
      refine RW.fin (fun τ => τ 3 = .pointer (some ⟨b1, 0, none⟩) ∧ τ 8 = .pointer (some ⟨k2, 0, none⟩) ∧ τ 9 = .int .i64 (((kindF a 21).toNat : Nat) : Int) ∧ τ 10 = .int .i64 (((kindF b 21).toNat : Nat) : Int) ∧ τ 14 = .int .i64 ((j : Nat) : Int) ∧ τ 70 = .bool (decide (((j : Nat) : Int) < (((kindF b 21).toNat : Nat) : Int)))) ⟨up rfl (up rfl (up rfl hs3)), up rfl (up rfl (up rfl hs8)), up rfl (up rfl (up rfl hs9)), up rfl (up rfl (up rfl hs10)), up rfl (up rfl (up rfl hs14)), tp⟩ ?_
      rintro τ ⟨hs3, hs8, hs9, hs10, hs14, hs70⟩
      refine CW.cond (AF_ev rfl hs70) (fun hc7 => ?_) (fun hc7 => ?_)
      · have hc7_ := hc7
        try simp only [decide_eq_true_eq, decide_eq_false_iff_not, Bool.and_eq_true, Bool.or_eq_true, Bool.and_eq_false_iff, Bool.or_eq_false_iff, Bool.not_eq_true', Bool.not_eq_false', beq_iff_eq, beq_eq_false_iff_ne, bne_iff_ne, bne_eq_false_iff_eq, ne_eq, Int.not_lt, Int.not_le, gt_iff_lt, ge_iff_le] at hc7_
        refine CW.skip ?_
        refine Th.n ?_
        refine CW.seq ?_
        refine CW.block ?_
        refine CW.seq ?_
        refine Or.elim (Bool.eq_false_or_eq_true (decide (j + 1 < 4))) (fun hqa4 => ?_) (fun hqa4 => ?_)
        · skip
          refine CW.region ?_
          refine RW.soft Wd.a (v := .pointer (some ⟨k2, 0, none⟩)) (by exact E.move (AF_ev rfl hs8)) ?_
          refine RW.soft Wd.a (v := .agg (bk m).toArray) (by exact E.loadN (b := b1) (o := 0) (cs := bk m) Try.underlying74 rfl sz74 (AF_ev rfl (up rfl hs3)) (bk_len _) (St.cellsOf hst (.there .here) (fun j v hv => by rw [Nat.zero_add]; exact hv))) ?_
          refine RW.hard Wd.a ?_
          refine H.call0 Try.func43 nm43 rfl (map3 (AF_ev rfl (up rfl tp)) rfl (AF_ev rfl tp)) (Calls.mono ((show Calls Try.prog 43 #[.pointer (some ⟨k2, 0, none⟩), .int .i64 1, .agg (bk m).toArray] w (fun e w => e = .returned (.tuple #[.int .i64 (((j : Nat) : Int) + 2), .int .i64 0]) ∧ St p w (KeysV 127 k2 (rotK m (kindF a 21).toNat (j + 1)) :: pt b1 (.cells (bk m).toArray 74) :: R)) from (by
            have hm := rot_more (m := m) (a := (kindF a 21).toNat) (of_decide_eq_true hqa4)
            have hq := prog_Rotate 1 (by omega) m hst
            rw [hm] at hq; exact hq))) ?_)
          rintro _ w ⟨rfl, hst⟩
          refine ⟨_, rfl, ?_⟩
          show RW _ _ _ _ _ _ _
          refine RW.soft Wd.a (v := .tuple #[.int .i64 (((j : Nat) : Int) + 2), .int .i64 0]) (by exact E.move (AF_ev rfl tp)) ?_
          refine RW.soft Wd.a (v := .int .i64 (((j : Nat) : Int) + 2)) (by exact E.extract (vs := #[.int .i64 (((j : Nat) : Int) + 2), .int .i64 0]) (AF_ev rfl tp) rfl) ?_
          refine RW.soft Wd.a (v := .int .i64 0) (by exact E.extract (vs := #[.int .i64 (((j : Nat) : Int) + 2), .int .i64 0]) (AF_ev rfl (up rfl tp)) rfl) ?_
          refine RW.soft Wd.a (v := .int .i64 (((j : Nat) : Int) + 2)) (by exact E.assign (AF_ev rfl (up rfl tp))) ?_
          refine RW.soft Wd.a (v := .int .i64 0) (by exact E.assign (AF_ev rfl (up rfl tp))) ?_
          refine RW.fin (fun τ => τ 3 = .pointer (some ⟨b1, 0, none⟩) ∧ τ 8 = .pointer (some ⟨k2, 0, none⟩) ∧ τ 9 = .int .i64 (((kindF a 21).toNat : Nat) : Int) ∧ τ 10 = .int .i64 (((kindF b 21).toNat : Nat) : Int) ∧ τ 14 = .int .i64 ((j : Nat) : Int) ∧ τ 15 = .int .i64 (((j : Nat) : Int) + 2) ∧ τ 16 = .int .i64 0 ∧ τ 70 = .bool true) ⟨up rfl (up rfl (up rfl (up rfl (up rfl (up rfl (up rfl (up rfl hs3))))))), up rfl (up rfl (up rfl (up rfl (up rfl (up rfl (up rfl (up rfl hs8))))))), up rfl (up rfl (up rfl (up rfl (up rfl (up rfl (up rfl (up rfl hs9))))))), up rfl (up rfl (up rfl (up rfl (up rfl (up rfl (up rfl (up rfl hs10))))))), up rfl (up rfl (up rfl (up rfl (up rfl (up rfl (up rfl (up rfl hs14))))))), up rfl tp, tp, up rfl (up rfl (up rfl (up rfl (up rfl (up rfl (up rfl (up rfl (Eq.trans hs70 (congrArg Value.bool hc7)))))))))⟩ ?_
          rintro τ ⟨hs3, hs8, hs9, hs10, hs14, hs15, hs16, hs70⟩
          refine CW.seq ?_
          refine CW.seq ?_
          refine CW.region ?_
          refine RW.soft Wd.a (v := .int .i64 (((kindF a 21).toNat : Nat) : Int)) (by exact E.move (AF_ev rfl hs9)) ?_
          refine RW.soft Wd.a (v := .bool false) (by exact E.b (a := (((kindF a 21).toNat : Nat) : Int) == 0) (E.eql (k := .i64) (a := (((kindF a 21).toNat : Nat) : Int)) (b := 0) (AF_ev rfl tp) rfl) (by have := of_decide_eq_false hqa0; rw [beq_eq_false_iff_ne]; omega)) ?_
          refine RW.fin (fun τ => τ 3 = .pointer (some ⟨b1, 0, none⟩) ∧ τ 8 = .pointer (some ⟨k2, 0, none⟩) ∧ τ 9 = .int .i64 (((kindF a 21).toNat : Nat) : Int) ∧ τ 10 = .int .i64 (((kindF b 21).toNat : Nat) : Int) ∧ τ 14 = .int .i64 ((j : Nat) : Int) ∧ τ 15 = .int .i64 (((j : Nat) : Int) + 2) ∧ τ 16 = .int .i64 0 ∧ τ 70 = .bool true ∧ τ 80 = .bool false) ⟨up rfl (up rfl hs3), up rfl (up rfl hs8), up rfl (up rfl hs9), up rfl (up rfl hs10), up rfl (up rfl hs14), up rfl (up rfl hs15), up rfl (up rfl hs16), up rfl (up rfl hs70), tp⟩ ?_
          rintro τ ⟨hs3, hs8, hs9, hs10, hs14, hs15, hs16, hs70, hs80⟩
          refine CW.condF (AF_ev rfl hs80) ?_
          refine CW.skip ?_
          refine Th.n ?_
          refine CW.seq ?_
          refine CW.region ?_
          refine RW.soft Wd.a (v := .int .i64 0) (by exact E.move (AF_ev rfl hs16)) ?_
          refine RW.soft Wd.a (v := .bool true) (by exact E.eql (k := .i64) (a := 0) (b := 0) (AF_ev rfl tp) rfl) ?_
          refine RW.soft Wd.a (v := .int .i64 ((j : Nat) : Int)) (by exact E.move (AF_ev rfl (up rfl (up rfl hs14)))) ?_
          refine RW.soft Wd.a (v := .int .i64 (((j : Nat) : Int) + 1)) (by exact E.add (k := .i64) (a := ((j : Nat) : Int)) (b := 1) (AF_ev rfl tp) rfl (show IntKind.i64.wrap (((j : Nat) : Int) + 1) = ((j : Nat) : Int) + 1 from (by rw [IntWalk.i64_in _ (by omega)]))) ?_
          refine RW.soft Wd.a (v := .bool true) (by exact E.b (a := decide ((((j : Nat) : Int) + 1) < 4)) (E.lss (k := .i64) (a := ((j : Nat) : Int) + 1) (b := 4) (AF_ev rfl tp) rfl) (decide_eq_true (by have := of_decide_eq_true hqa4; omega))) ?_
          refine RW.soft Wd.a (v := .bool false) (by exact E.neqB (a := true) (b := true) Try.underlying4 (AF_ev rfl (up rfl (up rfl (up rfl tp)))) (AF_ev rfl tp)) ?_
          refine RW.soft Wd.a (v := .bool false) (by exact E.move (AF_ev rfl tp)) ?_
          refine RW.soft (by exact Wd.yes (x := 89) rfl (AF_ev rfl tp)) (v := .int .i64 0) (by exact E.move (AF_ev rfl (up rfl (up rfl (up rfl (up rfl (up rfl (up rfl (up rfl hs16))))))))) ?_
          refine RW.soft (by exact Wd.yes (x := 89) rfl (AF_ev rfl (up rfl tp))) (v := .bool true) (by exact E.eql (k := .i64) (a := 0) (b := 0) (AF_ev rfl tp) rfl) ?_
          refine RW.soft (by exact Wd.yes (x := 89) rfl (AF_ev rfl (up rfl (up rfl tp)))) (v := .bool true) (by exact E.move (AF_ev rfl tp)) ?_
          refine RW.soft (by exact Wd.yes (x := 92) rfl (AF_ev rfl tp)) (v := .int .i64 (((j : Nat) : Int) + 2)) (by exact E.move (AF_ev rfl (up rfl (up rfl (up rfl (up rfl (up rfl (up rfl (up rfl (up rfl (up rfl (up rfl hs15)))))))))))) ?_
          refine RW.soft (by exact Wd.yes (x := 92) rfl (AF_ev rfl (up rfl tp))) (v := .int .i64 ((j : Nat) : Int)) (by exact E.move (AF_ev rfl (up rfl (up rfl (up rfl (up rfl (up rfl (up rfl (up rfl (up rfl (up rfl (up rfl (up rfl hs14))))))))))))) ?_
          refine RW.soft (by exact Wd.yes (x := 92) rfl (AF_ev rfl (up rfl (up rfl tp)))) (v := .int .i64 (((j : Nat) : Int) + 2)) (by exact E.add (k := .i64) (a := ((j : Nat) : Int)) (b := 2) (AF_ev rfl tp) rfl (show IntKind.i64.wrap (((j : Nat) : Int) + 2) = ((j : Nat) : Int) + 2 from (by rw [IntWalk.i64_in _ (by omega)]))) ?_
          refine RW.soft (by exact Wd.yes (x := 92) rfl (AF_ev rfl (up rfl (up rfl (up rfl tp))))) (v := .bool false) (by exact E.b (a := (((j : Nat) : Int) + 2) != (((j : Nat) : Int) + 2)) (E.neq (k := .i64) (a := ((j : Nat) : Int) + 2) (b := ((j : Nat) : Int) + 2) (AF_ev rfl (up rfl (up rfl tp))) (AF_ev rfl tp)) (by simp)) ?_
          refine RW.soft (by exact Wd.yes (x := 89) rfl (AF_ev rfl (up rfl (up rfl (up rfl (up rfl (up rfl (up rfl (up rfl tp))))))))) (v := .bool false) (by exact E.pickT (AF_ev rfl (up rfl (up rfl (up rfl (up rfl tp))))) (AF_ev rfl tp)) ?_
          refine RW.soft Wd.a (v := .bool false) (by exact E.pickF (AF_ev rfl (up rfl (up rfl (up rfl (up rfl (up rfl (up rfl (up rfl (up rfl tp))))))))) (AF_ev rfl tp)) ?_
          refine RW.soft Wd.a (v := .bool false) (by exact E.move (AF_ev rfl tp)) ?_
          refine RW.soft (by exact Wd.yes (x := 99) rfl (AF_ev rfl tp)) (v := .int .i64 0) (by exact E.move (AF_ev rfl (up rfl (up rfl (up rfl (up rfl (up rfl (up rfl (up rfl (up rfl (up rfl (up rfl (up rfl (up rfl (up rfl (up rfl (up rfl (up rfl (up rfl hs16))))))))))))))))))) ?_
          refine RW.soft (by exact Wd.yes (x := 99) rfl (AF_ev rfl (up rfl tp))) (v := .bool false) (by exact E.neq (k := .i64) (a := 0) (b := 0) (AF_ev rfl tp) rfl) ?_
          refine RW.soft (by exact Wd.yes (x := 99) rfl (AF_ev rfl (up rfl (up rfl tp)))) (v := .bool false) (by exact E.move (AF_ev rfl tp)) ?_
          refine RW.pass (by exact Wd.no (x := 102) (b := false) rfl (AF_ev rfl tp) rfl) ?_
          refine RW.pass (by exact Wd.no (x := 102) (b := false) rfl (AF_ev rfl (up rfl tp)) rfl) ?_
          refine RW.soft (by exact Wd.yes (x := 99) rfl (AF_ev rfl (up rfl (up rfl (up rfl (up rfl (up rfl tp))))))) (v := .bool false) (by exact E.pickF (AF_ev rfl (up rfl (up rfl tp))) rfl) ?_
          refine RW.soft Wd.a (v := .bool false) (by exact E.pickF (AF_ev rfl (up rfl (up rfl (up rfl (up rfl (up rfl (up rfl tp))))))) (AF_ev rfl tp)) ?_
          refine RW.fin (fun τ => τ 3 = .pointer (some ⟨b1, 0, none⟩) ∧ τ 8 = .pointer (some ⟨k2, 0, none⟩) ∧ τ 9 = .int .i64 (((kindF a 21).toNat : Nat) : Int) ∧ τ 10 = .int .i64 (((kindF b 21).toNat : Nat) : Int) ∧ τ 14 = .int .i64 ((j : Nat) : Int) ∧ τ 15 = .int .i64 (((j : Nat) : Int) + 2) ∧ τ 16 = .int .i64 0 ∧ τ 70 = .bool true ∧ τ 80 = .bool false ∧ τ 106 = .bool false) ⟨up rfl (up rfl (up rfl (up rfl (up rfl (up rfl (up rfl (up rfl (up rfl (up rfl (up rfl (up rfl (up rfl (up rfl (up rfl (up rfl (up rfl (up rfl (up rfl (up rfl (up rfl (up rfl (up rfl (up rfl hs3))))))))))))))))))))))), up rfl (up rfl (up rfl (up rfl (up rfl (up rfl (up rfl (up rfl (up rfl (up rfl (up rfl (up rfl (up rfl (up rfl (up rfl (up rfl (up rfl (up rfl (up rfl (up rfl (up rfl (up rfl (up rfl (up rfl hs8))))))))))))))))))))))), up rfl (up rfl (up rfl (up rfl (up rfl (up rfl (up rfl (up rfl (up rfl (up rfl (up rfl (up rfl (up rfl (up rfl (up rfl (up rfl (up rfl (up rfl (up rfl (up rfl (up rfl (up rfl (up rfl (up rfl hs9))))))))))))))))))))))), up rfl (up rfl (up rfl (up rfl (up rfl (up rfl (up rfl (up rfl (up rfl (up rfl (up rfl (up rfl (up rfl (up rfl (up rfl (up rfl (up rfl (up rfl (up rfl (up rfl (up rfl (up rfl (up rfl (up rfl hs10))))))))))))))))))))))), up rfl (up rfl (up rfl (up rfl (up rfl (up rfl (up rfl (up rfl (up rfl (up rfl (up rfl (up rfl (up rfl (up rfl (up rfl (up rfl (up rfl (up rfl (up rfl (up rfl (up rfl (up rfl (up rfl (up rfl hs14))))))))))))))))))))))), up rfl (up rfl (up rfl (up rfl (up rfl (up rfl (up rfl (up rfl (up rfl (up rfl (up rfl (up rfl (up rfl (up rfl (up rfl (up rfl (up rfl (up rfl (up rfl (up rfl (up rfl (up rfl (up rfl (up rfl hs15))))))))))))))))))))))), up rfl (up rfl (up rfl (up rfl (up rfl (up rfl (up rfl (up rfl (up rfl (up rfl (up rfl (up rfl (up rfl (up rfl (up rfl (up rfl (up rfl (up rfl (up rfl (up rfl (up rfl (up rfl (up rfl (up rfl hs16))))))))))))))))))))))), up rfl (up rfl (up rfl (up rfl (up rfl (up rfl (up rfl (up rfl (up rfl (up rfl (up rfl (up rfl (up rfl (up rfl (up rfl (up rfl (up rfl (up rfl (up rfl (up rfl (up rfl (up rfl (up rfl (up rfl hs70))))))))))))))))))))))), up rfl (up rfl (up rfl (up rfl (up rfl (up rfl (up rfl (up rfl (up rfl (up rfl (up rfl (up rfl (up rfl (up rfl (up rfl (up rfl (up rfl (up rfl (up rfl (up rfl (up rfl (up rfl (up rfl (up rfl hs80))))))))))))))))))))))), tp⟩ ?_
          rintro τ ⟨hs3, hs8, hs9, hs10, hs14, hs15, hs16, hs70, hs80, hs106⟩
          refine CW.condF (AF_ev rfl hs106) ?_
          refine CW.skip ?_
          refine Bl.n ?_
          refine Th.n ?_
          refine CW.region ?_
          refine RW.soft Wd.a (v := .int .i64 ((j : Nat) : Int)) (by exact E.move (AF_ev rfl hs14)) ?_
          refine RW.soft Wd.a (v := .int .i64 (((j : Nat) : Int) + 1)) (by exact E.add (k := .i64) (a := ((j : Nat) : Int)) (b := 1) (AF_ev rfl tp) rfl (show IntKind.i64.wrap (((j : Nat) : Int) + 1) = ((j : Nat) : Int) + 1 from (by rw [IntWalk.i64_in _ (by omega)]))) ?_
          refine RW.soft Wd.a (v := .int .i64 (((j : Nat) : Int) + 1)) (by exact E.assign (AF_ev rfl tp)) ?_
          refine RW.nil ?_
          refine Th.n ?_
          have hst := hst.take (.there .here)
          have hst := hst.take (.there .here)
          exact ⟨(kindF b 21).toNat - (j + 1), by omega, j + 1, (by omega), rfl, up rfl (up rfl (up rfl hs3)), up rfl (up rfl (up rfl hs8)), up rfl (up rfl (up rfl hs9)), up rfl (up rfl (up rfl hs10)), (int_eq (a := ((j : Nat) : Int) + 1) tp (by omega)), hst⟩
        · skip
          refine CW.region ?_
          refine RW.soft Wd.a (v := .pointer (some ⟨k2, 0, none⟩)) (by exact E.move (AF_ev rfl hs8)) ?_
          refine RW.soft Wd.a (v := .agg (bk m).toArray) (by exact E.loadN (b := b1) (o := 0) (cs := bk m) Try.underlying74 rfl sz74 (AF_ev rfl (up rfl hs3)) (bk_len _) (St.cellsOf hst (.there .here) (fun j v hv => by rw [Nat.zero_add]; exact hv))) ?_
          refine RW.hard Wd.a ?_
          refine H.call0 Try.func43 nm43 rfl (map3 (AF_ev rfl (up rfl tp)) rfl (AF_ev rfl tp)) (Calls.mono ((show Calls Try.prog 43 #[.pointer (some ⟨k2, 0, none⟩), .int .i64 1, .agg (bk m).toArray] w (fun e w => e = .returned (.tuple #[.int .i64 0, .int .i64 134]) ∧ St p w (KeysV 127 k2 (rotK m (kindF a 21).toNat (j + 1)) :: pt b1 (.cells (bk m).toArray 74) :: R)) from (by
            have hm := rot_none (m := m) (a := (kindF a 21).toNat) (of_decide_eq_false hqa4)
            have hq := prog_Rotate 1 (by omega) m hst
            rw [hm] at hq; exact hq))) ?_)
          rintro _ w ⟨rfl, hst⟩
          refine ⟨_, rfl, ?_⟩
          show RW _ _ _ _ _ _ _
          refine RW.soft Wd.a (v := .tuple #[.int .i64 0, .int .i64 134]) (by exact E.move (AF_ev rfl tp)) ?_
          refine RW.soft Wd.a (v := .int .i64 0) (by exact E.extract (vs := #[.int .i64 0, .int .i64 134]) (AF_ev rfl tp) rfl) ?_
          refine RW.soft Wd.a (v := .int .i64 134) (by exact E.extract (vs := #[.int .i64 0, .int .i64 134]) (AF_ev rfl (up rfl tp)) rfl) ?_
          refine RW.soft Wd.a (v := .int .i64 0) (by exact E.assign (AF_ev rfl (up rfl tp))) ?_
          refine RW.soft Wd.a (v := .int .i64 134) (by exact E.assign (AF_ev rfl (up rfl tp))) ?_
          refine RW.fin (fun τ => τ 3 = .pointer (some ⟨b1, 0, none⟩) ∧ τ 8 = .pointer (some ⟨k2, 0, none⟩) ∧ τ 9 = .int .i64 (((kindF a 21).toNat : Nat) : Int) ∧ τ 10 = .int .i64 (((kindF b 21).toNat : Nat) : Int) ∧ τ 14 = .int .i64 ((j : Nat) : Int) ∧ τ 15 = .int .i64 0 ∧ τ 16 = .int .i64 134 ∧ τ 70 = .bool true) ⟨up rfl (up rfl (up rfl (up rfl (up rfl (up rfl (up rfl (up rfl hs3))))))), up rfl (up rfl (up rfl (up rfl (up rfl (up rfl (up rfl (up rfl hs8))))))), up rfl (up rfl (up rfl (up rfl (up rfl (up rfl (up rfl (up rfl hs9))))))), up rfl (up rfl (up rfl (up rfl (up rfl (up rfl (up rfl (up rfl hs10))))))), up rfl (up rfl (up rfl (up rfl (up rfl (up rfl (up rfl (up rfl hs14))))))), up rfl tp, tp, up rfl (up rfl (up rfl (up rfl (up rfl (up rfl (up rfl (up rfl (Eq.trans hs70 (congrArg Value.bool hc7)))))))))⟩ ?_
          rintro τ ⟨hs3, hs8, hs9, hs10, hs14, hs15, hs16, hs70⟩
          refine CW.seq ?_
          refine CW.seq ?_
          refine CW.region ?_
          refine RW.soft Wd.a (v := .int .i64 (((kindF a 21).toNat : Nat) : Int)) (by exact E.move (AF_ev rfl hs9)) ?_
          refine RW.soft Wd.a (v := .bool false) (by exact E.b (a := (((kindF a 21).toNat : Nat) : Int) == 0) (E.eql (k := .i64) (a := (((kindF a 21).toNat : Nat) : Int)) (b := 0) (AF_ev rfl tp) rfl) (by have := of_decide_eq_false hqa0; rw [beq_eq_false_iff_ne]; omega)) ?_
          refine RW.fin (fun τ => τ 3 = .pointer (some ⟨b1, 0, none⟩) ∧ τ 8 = .pointer (some ⟨k2, 0, none⟩) ∧ τ 9 = .int .i64 (((kindF a 21).toNat : Nat) : Int) ∧ τ 10 = .int .i64 (((kindF b 21).toNat : Nat) : Int) ∧ τ 14 = .int .i64 ((j : Nat) : Int) ∧ τ 15 = .int .i64 0 ∧ τ 16 = .int .i64 134 ∧ τ 70 = .bool true ∧ τ 80 = .bool false) ⟨up rfl (up rfl hs3), up rfl (up rfl hs8), up rfl (up rfl hs9), up rfl (up rfl hs10), up rfl (up rfl hs14), up rfl (up rfl hs15), up rfl (up rfl hs16), up rfl (up rfl hs70), tp⟩ ?_
          rintro τ ⟨hs3, hs8, hs9, hs10, hs14, hs15, hs16, hs70, hs80⟩
          refine CW.condF (AF_ev rfl hs80) ?_
          refine CW.skip ?_
          refine Th.n ?_
          refine CW.seq ?_
          refine CW.region ?_
          refine RW.soft Wd.a (v := .int .i64 134) (by exact E.move (AF_ev rfl hs16)) ?_
          refine RW.soft Wd.a (v := .bool false) (by exact E.eql (k := .i64) (a := 134) (b := 0) (AF_ev rfl tp) rfl) ?_
          refine RW.soft Wd.a (v := .int .i64 ((j : Nat) : Int)) (by exact E.move (AF_ev rfl (up rfl (up rfl hs14)))) ?_
          refine RW.soft Wd.a (v := .int .i64 (((j : Nat) : Int) + 1)) (by exact E.add (k := .i64) (a := ((j : Nat) : Int)) (b := 1) (AF_ev rfl tp) rfl (show IntKind.i64.wrap (((j : Nat) : Int) + 1) = ((j : Nat) : Int) + 1 from (by rw [IntWalk.i64_in _ (by omega)]))) ?_
          refine RW.soft Wd.a (v := .bool false) (by exact E.b (a := decide ((((j : Nat) : Int) + 1) < 4)) (E.lss (k := .i64) (a := ((j : Nat) : Int) + 1) (b := 4) (AF_ev rfl tp) rfl) (decide_eq_false (by have := of_decide_eq_false hqa4; omega))) ?_
          refine RW.soft Wd.a (v := .bool false) (by exact E.neqB (a := false) (b := false) Try.underlying4 (AF_ev rfl (up rfl (up rfl (up rfl tp)))) (AF_ev rfl tp)) ?_
          refine RW.soft Wd.a (v := .bool false) (by exact E.move (AF_ev rfl tp)) ?_
          refine RW.soft (by exact Wd.yes (x := 89) rfl (AF_ev rfl tp)) (v := .int .i64 134) (by exact E.move (AF_ev rfl (up rfl (up rfl (up rfl (up rfl (up rfl (up rfl (up rfl hs16))))))))) ?_
          refine RW.soft (by exact Wd.yes (x := 89) rfl (AF_ev rfl (up rfl tp))) (v := .bool false) (by exact E.eql (k := .i64) (a := 134) (b := 0) (AF_ev rfl tp) rfl) ?_
          refine RW.soft (by exact Wd.yes (x := 89) rfl (AF_ev rfl (up rfl (up rfl tp)))) (v := .bool false) (by exact E.move (AF_ev rfl tp)) ?_
          refine RW.pass (by exact Wd.no (x := 92) (b := false) rfl (AF_ev rfl tp) rfl) ?_
          refine RW.pass (by exact Wd.no (x := 92) (b := false) rfl (AF_ev rfl (up rfl tp)) rfl) ?_
          refine RW.pass (by exact Wd.no (x := 92) (b := false) rfl (AF_ev rfl (up rfl (up rfl tp))) rfl) ?_
          refine RW.pass (by exact Wd.no (x := 92) (b := false) rfl (AF_ev rfl (up rfl (up rfl (up rfl tp)))) rfl) ?_
          refine RW.soft (by exact Wd.yes (x := 89) rfl (AF_ev rfl (up rfl (up rfl (up rfl (up rfl (up rfl (up rfl (up rfl tp))))))))) (v := .bool false) (by exact E.pickF (AF_ev rfl (up rfl (up rfl (up rfl (up rfl tp))))) rfl) ?_
          refine RW.soft Wd.a (v := .bool false) (by exact E.pickF (AF_ev rfl (up rfl (up rfl (up rfl (up rfl (up rfl (up rfl (up rfl (up rfl tp))))))))) (AF_ev rfl tp)) ?_
          refine RW.soft Wd.a (v := .bool false) (by exact E.move (AF_ev rfl tp)) ?_
          refine RW.soft (by exact Wd.yes (x := 99) rfl (AF_ev rfl tp)) (v := .int .i64 134) (by exact E.move (AF_ev rfl (up rfl (up rfl (up rfl (up rfl (up rfl (up rfl (up rfl (up rfl (up rfl (up rfl (up rfl (up rfl (up rfl (up rfl (up rfl (up rfl (up rfl hs16))))))))))))))))))) ?_
          refine RW.soft (by exact Wd.yes (x := 99) rfl (AF_ev rfl (up rfl tp))) (v := .bool true) (by exact E.neq (k := .i64) (a := 134) (b := 0) (AF_ev rfl tp) rfl) ?_
          refine RW.soft (by exact Wd.yes (x := 99) rfl (AF_ev rfl (up rfl (up rfl tp)))) (v := .bool true) (by exact E.move (AF_ev rfl tp)) ?_
          refine RW.soft (by exact Wd.yes (x := 102) rfl (AF_ev rfl tp)) (v := .int .i64 134) (by exact E.move (AF_ev rfl (up rfl (up rfl (up rfl (up rfl (up rfl (up rfl (up rfl (up rfl (up rfl (up rfl (up rfl (up rfl (up rfl (up rfl (up rfl (up rfl (up rfl (up rfl (up rfl (up rfl hs16)))))))))))))))))))))) ?_
          refine RW.soft (by exact Wd.yes (x := 102) rfl (AF_ev rfl (up rfl tp))) (v := .bool false) (by exact E.neq (k := .i64) (a := 134) (b := 134) (AF_ev rfl tp) rfl) ?_
          refine RW.soft (by exact Wd.yes (x := 99) rfl (AF_ev rfl (up rfl (up rfl (up rfl (up rfl (up rfl tp))))))) (v := .bool false) (by exact E.pickT (AF_ev rfl (up rfl (up rfl tp))) (AF_ev rfl tp)) ?_
          refine RW.soft Wd.a (v := .bool false) (by exact E.pickF (AF_ev rfl (up rfl (up rfl (up rfl (up rfl (up rfl (up rfl tp))))))) (AF_ev rfl tp)) ?_
          refine RW.fin (fun τ => τ 3 = .pointer (some ⟨b1, 0, none⟩) ∧ τ 8 = .pointer (some ⟨k2, 0, none⟩) ∧ τ 9 = .int .i64 (((kindF a 21).toNat : Nat) : Int) ∧ τ 10 = .int .i64 (((kindF b 21).toNat : Nat) : Int) ∧ τ 14 = .int .i64 ((j : Nat) : Int) ∧ τ 15 = .int .i64 0 ∧ τ 16 = .int .i64 134 ∧ τ 70 = .bool true ∧ τ 80 = .bool false ∧ τ 106 = .bool false) ⟨up rfl (up rfl (up rfl (up rfl (up rfl (up rfl (up rfl (up rfl (up rfl (up rfl (up rfl (up rfl (up rfl (up rfl (up rfl (up rfl (up rfl (up rfl (up rfl (up rfl (up rfl (up rfl (up rfl (up rfl hs3))))))))))))))))))))))), up rfl (up rfl (up rfl (up rfl (up rfl (up rfl (up rfl (up rfl (up rfl (up rfl (up rfl (up rfl (up rfl (up rfl (up rfl (up rfl (up rfl (up rfl (up rfl (up rfl (up rfl (up rfl (up rfl (up rfl hs8))))))))))))))))))))))), up rfl (up rfl (up rfl (up rfl (up rfl (up rfl (up rfl (up rfl (up rfl (up rfl (up rfl (up rfl (up rfl (up rfl (up rfl (up rfl (up rfl (up rfl (up rfl (up rfl (up rfl (up rfl (up rfl (up rfl hs9))))))))))))))))))))))), up rfl (up rfl (up rfl (up rfl (up rfl (up rfl (up rfl (up rfl (up rfl (up rfl (up rfl (up rfl (up rfl (up rfl (up rfl (up rfl (up rfl (up rfl (up rfl (up rfl (up rfl (up rfl (up rfl (up rfl hs10))))))))))))))))))))))), up rfl (up rfl (up rfl (up rfl (up rfl (up rfl (up rfl (up rfl (up rfl (up rfl (up rfl (up rfl (up rfl (up rfl (up rfl (up rfl (up rfl (up rfl (up rfl (up rfl (up rfl (up rfl (up rfl (up rfl hs14))))))))))))))))))))))), up rfl (up rfl (up rfl (up rfl (up rfl (up rfl (up rfl (up rfl (up rfl (up rfl (up rfl (up rfl (up rfl (up rfl (up rfl (up rfl (up rfl (up rfl (up rfl (up rfl (up rfl (up rfl (up rfl (up rfl hs15))))))))))))))))))))))), up rfl (up rfl (up rfl (up rfl (up rfl (up rfl (up rfl (up rfl (up rfl (up rfl (up rfl (up rfl (up rfl (up rfl (up rfl (up rfl (up rfl (up rfl (up rfl (up rfl (up rfl (up rfl (up rfl (up rfl hs16))))))))))))))))))))))), up rfl (up rfl (up rfl (up rfl (up rfl (up rfl (up rfl (up rfl (up rfl (up rfl (up rfl (up rfl (up rfl (up rfl (up rfl (up rfl (up rfl (up rfl (up rfl (up rfl (up rfl (up rfl (up rfl (up rfl hs70))))))))))))))))))))))), up rfl (up rfl (up rfl (up rfl (up rfl (up rfl (up rfl (up rfl (up rfl (up rfl (up rfl (up rfl (up rfl (up rfl (up rfl (up rfl (up rfl (up rfl (up rfl (up rfl (up rfl (up rfl (up rfl (up rfl hs80))))))))))))))))))))))), tp⟩ ?_
          rintro τ ⟨hs3, hs8, hs9, hs10, hs14, hs15, hs16, hs70, hs80, hs106⟩
          refine CW.condF (AF_ev rfl hs106) ?_
          refine CW.skip ?_
          refine Bl.n ?_
          refine Th.n ?_
          refine CW.region ?_
          refine RW.soft Wd.a (v := .int .i64 ((j : Nat) : Int)) (by exact E.move (AF_ev rfl hs14)) ?_
          refine RW.soft Wd.a (v := .int .i64 (((j : Nat) : Int) + 1)) (by exact E.add (k := .i64) (a := ((j : Nat) : Int)) (b := 1) (AF_ev rfl tp) rfl (show IntKind.i64.wrap (((j : Nat) : Int) + 1) = ((j : Nat) : Int) + 1 from (by rw [IntWalk.i64_in _ (by omega)]))) ?_
          refine RW.soft Wd.a (v := .int .i64 (((j : Nat) : Int) + 1)) (by exact E.assign (AF_ev rfl tp)) ?_
          refine RW.nil ?_
          refine Th.n ?_
          have hst := hst.take (.there .here)
          have hst := hst.take (.there .here)
          exact ⟨(kindF b 21).toNat - (j + 1), by omega, j + 1, (by omega), rfl, up rfl (up rfl (up rfl hs3)), up rfl (up rfl (up rfl hs8)), up rfl (up rfl (up rfl hs9)), up rfl (up rfl (up rfl hs10)), (int_eq (a := ((j : Nat) : Int) + 1) tp (by omega)), hst⟩
      · have hc7_ := hc7
        try simp only [decide_eq_true_eq, decide_eq_false_iff_not, Bool.and_eq_true, Bool.or_eq_true, Bool.and_eq_false_iff, Bool.or_eq_false_iff, Bool.not_eq_true', Bool.not_eq_false', beq_iff_eq, beq_eq_false_iff_ne, bne_iff_ne, bne_eq_false_iff_eq, ne_eq, Int.not_lt, Int.not_le, gt_iff_lt, ge_iff_le] at hc7_
        refine CW.exit ?_
        refine Th.x ?_
        refine Th.x ?_
        refine Bl.x ?_
        refine Th.n ?_
        refine CW.seq ?_
        refine CW.region ?_
        refine RW.soft Wd.a (v := .pointer (some ⟨k2, 0, none⟩)) (by exact E.move (AF_ev rfl hs8)) ?_
        refine RW.hard Wd.a ?_
        refine H.call0 Try.func40 nm40 rfl (map1 (AF_ev rfl tp)) (Calls.mono (prog_Rings hst) ?_)
        rintro _ w ⟨vg8, rfl, hst⟩
        obtain ⟨g8, c9, rfl, hcg8⟩ := rowsShape2 (n := min (kindF a 21).toNat 8) (rot_len hA0) (by omega) hst
        refine ⟨_, rfl, ?_⟩
        show RW _ _ _ _ _ _ _
        refine RW.soft Wd.a (v := .slice (some ⟨g8, 0, none⟩) (min (kindF a 21).toNat 8) c9) (by exact E.assign (AF_ev rfl tp)) ?_
        refine RW.fin (fun τ => τ 3 = .pointer (some ⟨b1, 0, none⟩) ∧ τ 8 = .pointer (some ⟨k2, 0, none⟩) ∧ τ 9 = .int .i64 (((kindF a 21).toNat : Nat) : Int) ∧ τ 10 = .int .i64 (((kindF b 21).toNat : Nat) : Int) ∧ τ 14 = .int .i64 ((j : Nat) : Int) ∧ τ 17 = .slice (some ⟨g8, 0, none⟩) (min (kindF a 21).toNat 8) c9 ∧ τ 70 = .bool false) ⟨up rfl (up rfl (up rfl hs3)), up rfl (up rfl (up rfl hs8)), up rfl (up rfl (up rfl hs9)), up rfl (up rfl (up rfl hs10)), up rfl (up rfl (up rfl hs14)), tp, up rfl (up rfl (up rfl (Eq.trans hs70 (congrArg Value.bool hc7))))⟩ ?_
        rintro τ ⟨hs3, hs8, hs9, hs10, hs14, hs17, hs70⟩
        refine CW.seq ?_
        have hjB : j = (kindF b 21).toNat := by omega
        obtain ⟨rs, g, Y, d, F, hg, hcr, hmr, hY, hr, hst, turn⟩ := ringOpenF (i := 0) (o := false) (vs := List.replicate (min (j + 1) 4) (Ver.mk m 0 false)) (rot_len hA0) hst rfl
        cases hg
        have hrl : (List.replicate (min (j + 1) 4) (Ver.mk m 0 false)).length = min (j + 1) 4 := List.length_replicate ..
        refine CW.region ?_
        refine RW.soft Wd.a (v := .slice (some ⟨g8, 0, none⟩) (min (kindF a 21).toNat 8) c9) (by exact E.move (AF_ev rfl hs17)) ?_
        refine RW.soft Wd.a (v := .int .i64 (((min (kindF a 21).toNat 8) : Nat) : Int)) (by exact E.lenS (p := (some ⟨g8, 0, none⟩)) (l := (min (kindF a 21).toNat 8)) (c := c9) Try.underlying71 (AF_ev rfl tp)) ?_
        refine RW.soft Wd.a (v := .int .i64 (((kindF a 21).toNat : Nat) : Int)) (by exact E.move (AF_ev rfl (up rfl (up rfl hs9)))) ?_
        refine RW.soft Wd.a (v := .int .i64 (min (((kindF a 21).toNat : Nat) : Int) 8)) (by exact E.min (k := .i64) (a := (((kindF a 21).toNat : Nat) : Int)) (b := 8) (AF_ev rfl tp) rfl (by rw [Int.min_def]; split <;> split <;> omega)) ?_
        refine RW.soft Wd.a (v := .bool true) (by exact E.b (a := (((min (kindF a 21).toNat 8) : Nat) : Int) == (min (((kindF a 21).toNat : Nat) : Int) 8)) (E.eql (k := .i64) (a := (((min (kindF a 21).toNat 8) : Nat) : Int)) (b := min (((kindF a 21).toNat : Nat) : Int) 8) (AF_ev rfl (up rfl (up rfl tp))) (AF_ev rfl tp)) (by rw [beq_iff_eq]; omega)) ?_
        refine RW.soft Wd.a (v := .bool true) (by exact E.move (AF_ev rfl tp)) ?_
        refine RW.soft (by exact Wd.yes (x := 114) rfl (AF_ev rfl tp)) (v := .int .i64 (((kindF a 21).toNat : Nat) : Int)) (by exact E.move (AF_ev rfl (up rfl (up rfl (up rfl (up rfl (up rfl (up rfl hs9)))))))) ?_
        refine RW.soft (by exact Wd.yes (x := 114) rfl (AF_ev rfl (up rfl tp))) (v := .bool false) (by exact E.b (a := (((kindF a 21).toNat : Nat) : Int) == 0) (E.eql (k := .i64) (a := (((kindF a 21).toNat : Nat) : Int)) (b := 0) (AF_ev rfl tp) rfl) (by have := of_decide_eq_false hqa0; rw [beq_eq_false_iff_ne]; omega)) ?_
        refine RW.soft (by exact Wd.yes (x := 114) rfl (AF_ev rfl (up rfl (up rfl tp)))) (v := .bool false) (by exact E.move (AF_ev rfl tp)) ?_
        refine RW.soft (by exact Wd.yes (x := 117) rfl (AF_ev rfl tp)) (v := .slice (some ⟨g8, 0, none⟩) (min (kindF a 21).toNat 8) c9) (by exact E.move (AF_ev rfl (up rfl (up rfl (up rfl (up rfl (up rfl (up rfl (up rfl (up rfl (up rfl hs17))))))))))) ?_
        refine RW.soft (by exact Wd.yes (x := 117) rfl (AF_ev rfl (up rfl tp))) (v := .pointer (some ⟨g8, 0, none⟩)) (by exact E.indexAddr (b := g8) (o := 0) (l := (min (kindF a 21).toNat 8)) (c := c9) (i := 0) Try.underlying71 sz84 (AF_ev rfl tp) rfl (by omega) (by omega) (by simp)) ?_
        refine RW.soft (by exact Wd.yes (x := 117) rfl (AF_ev rfl (up rfl (up rfl tp)))) (v := .pointer (some ⟨g8, 1, none⟩)) (by exact E.fieldAddr (b := g8) (o := 0) (f := { name := "L", type := 82, offset := 1, embedded := false, tag := "", pkgPath := "", byteOffset := 8 }) (AF_ev rfl tp) Try.underlying84 rfl sz82 rfl) ?_
        refine RW.soft (by exact Wd.yes (x := 117) rfl (AF_ev rfl (up rfl (up rfl (up rfl tp))))) (v := .slice Y ((List.replicate (min (j + 1) 4) (Ver.mk m 0 false)).length) d) (by exact E.load (a := ⟨g8, 1, none⟩) Try.underlying82 rfl (AF_ev rfl tp) (hst.ocell .here (flat_get (j := 1) RingM.enc_len hr (rfl)))) ?_
        refine RW.soft (by exact Wd.yes (x := 117) rfl (AF_ev rfl (up rfl (up rfl (up rfl (up rfl tp)))))) (v := .int .i64 (((List.replicate (min (j + 1) 4) (Ver.mk m 0 false)).length : Nat) : Int)) (by exact E.lenS (p := Y) (l := (List.replicate (min (j + 1) 4) (Ver.mk m 0 false)).length) (c := d) Try.underlying82 (AF_ev rfl tp)) ?_
        refine RW.soft (by exact Wd.yes (x := 117) rfl (AF_ev rfl (up rfl (up rfl (up rfl (up rfl (up rfl tp))))))) (v := .int .i64 (((kindF b 21).toNat : Nat) : Int)) (by exact E.move (AF_ev rfl (up rfl (up rfl (up rfl (up rfl (up rfl (up rfl (up rfl (up rfl (up rfl (up rfl (up rfl (up rfl (up rfl (up rfl hs10)))))))))))))))) ?_
        refine RW.soft (by exact Wd.yes (x := 117) rfl (AF_ev rfl (up rfl (up rfl (up rfl (up rfl (up rfl (up rfl tp)))))))) (v := .int .i64 ((((kindF b 21).toNat : Nat) : Int) + 1)) (by exact E.add (k := .i64) (a := (((kindF b 21).toNat : Nat) : Int)) (b := 1) (AF_ev rfl tp) rfl (show IntKind.i64.wrap ((((kindF b 21).toNat : Nat) : Int) + 1) = (((kindF b 21).toNat : Nat) : Int) + 1 from (by rw [IntWalk.i64_in _ (by omega)]))) ?_
        refine RW.soft (by exact Wd.yes (x := 117) rfl (AF_ev rfl (up rfl (up rfl (up rfl (up rfl (up rfl (up rfl (up rfl tp))))))))) (v := .int .i64 (min ((((kindF b 21).toNat : Nat) : Int) + 1) 4)) (by exact E.min (k := .i64) (a := (((kindF b 21).toNat : Nat) : Int) + 1) (b := 4) (AF_ev rfl tp) rfl (by rw [Int.min_def]; split <;> split <;> omega)) ?_
        refine RW.soft (by exact Wd.yes (x := 117) rfl (AF_ev rfl (up rfl (up rfl (up rfl (up rfl (up rfl (up rfl (up rfl (up rfl tp)))))))))) (v := .bool true) (by exact E.b (a := (((List.replicate (min (j + 1) 4) (Ver.mk m 0 false)).length : Nat) : Int) == (min ((((kindF b 21).toNat : Nat) : Int) + 1) 4)) (E.eql (k := .i64) (a := (((List.replicate (min (j + 1) 4) (Ver.mk m 0 false)).length : Nat) : Int)) (b := min ((((kindF b 21).toNat : Nat) : Int) + 1) 4) (AF_ev rfl (up rfl (up rfl (up rfl tp)))) (AF_ev rfl tp)) (by rw [beq_iff_eq]; show (((List.replicate (min (j + 1) 4) (Ver.mk m 0 false)).length : Nat) : Int) = _; rw [hrl]; omega)) ?_
        refine RW.soft (by exact Wd.yes (x := 114) rfl (AF_ev rfl (up rfl (up rfl (up rfl (up rfl (up rfl (up rfl (up rfl (up rfl (up rfl (up rfl (up rfl (up rfl tp)))))))))))))) (v := .bool true) (by exact E.pickF (AF_ev rfl (up rfl (up rfl (up rfl (up rfl (up rfl (up rfl (up rfl (up rfl (up rfl tp)))))))))) (AF_ev rfl tp)) ?_
        refine RW.soft Wd.a (v := .bool true) (by exact E.pickT (AF_ev rfl (up rfl (up rfl (up rfl (up rfl (up rfl (up rfl (up rfl (up rfl (up rfl (up rfl (up rfl (up rfl (up rfl tp)))))))))))))) (AF_ev rfl tp)) ?_
        refine RW.soft Wd.a (v := .bool true) (by exact E.assign (AF_ev rfl tp)) ?_
        refine RW.fin (fun τ => τ 3 = .pointer (some ⟨b1, 0, none⟩) ∧ τ 6 = .bool true ∧ τ 8 = .pointer (some ⟨k2, 0, none⟩) ∧ τ 9 = .int .i64 (((kindF a 21).toNat : Nat) : Int) ∧ τ 10 = .int .i64 (((kindF b 21).toNat : Nat) : Int) ∧ τ 14 = .int .i64 ((j : Nat) : Int) ∧ τ 17 = .slice (some ⟨g8, 0, none⟩) (min (kindF a 21).toNat 8) c9 ∧ τ 70 = .bool false) ⟨up rfl (up rfl (up rfl (up rfl (up rfl (up rfl (up rfl (up rfl (up rfl (up rfl (up rfl (up rfl (up rfl (up rfl (up rfl (up rfl (up rfl (up rfl (up rfl (up rfl (up rfl hs3)))))))))))))))))))), tp, up rfl (up rfl (up rfl (up rfl (up rfl (up rfl (up rfl (up rfl (up rfl (up rfl (up rfl (up rfl (up rfl (up rfl (up rfl (up rfl (up rfl (up rfl (up rfl (up rfl (up rfl hs8)))))))))))))))))))), up rfl (up rfl (up rfl (up rfl (up rfl (up rfl (up rfl (up rfl (up rfl (up rfl (up rfl (up rfl (up rfl (up rfl (up rfl (up rfl (up rfl (up rfl (up rfl (up rfl (up rfl hs9)))))))))))))))))))), up rfl (up rfl (up rfl (up rfl (up rfl (up rfl (up rfl (up rfl (up rfl (up rfl (up rfl (up rfl (up rfl (up rfl (up rfl (up rfl (up rfl (up rfl (up rfl (up rfl (up rfl hs10)))))))))))))))))))), up rfl (up rfl (up rfl (up rfl (up rfl (up rfl (up rfl (up rfl (up rfl (up rfl (up rfl (up rfl (up rfl (up rfl (up rfl (up rfl (up rfl (up rfl (up rfl (up rfl (up rfl hs14)))))))))))))))))))), up rfl (up rfl (up rfl (up rfl (up rfl (up rfl (up rfl (up rfl (up rfl (up rfl (up rfl (up rfl (up rfl (up rfl (up rfl (up rfl (up rfl (up rfl (up rfl (up rfl (up rfl hs17)))))))))))))))))))), up rfl (up rfl (up rfl (up rfl (up rfl (up rfl (up rfl (up rfl (up rfl (up rfl (up rfl (up rfl (up rfl (up rfl (up rfl (up rfl (up rfl (up rfl (up rfl (up rfl (up rfl hs70))))))))))))))))))))⟩ ?_
        rintro τ ⟨hs3, hs6, hs8, hs9, hs10, hs14, hs17, hs70⟩
        refine CW.ret ?_
        refine ret1 (v := .bool true) rfl (by exact (.tmp (AF_ev rfl hs6) .nil)) ?_
        exact ⟨rfl, (by
          have hst := (turn (o' := false) rfl (by rw [set_self hr]; exact hst))
          exact hst.drop.drop.drop)⟩
end Go.Proofs.Ytdlcjoonhojpfaa
