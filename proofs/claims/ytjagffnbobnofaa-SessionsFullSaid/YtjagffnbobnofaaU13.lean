/- The functions of the package quorum, walked through operation by operation. -/
import Derived.Test.YtjagffnbobnofaaU10
import Derived.Test.YtjagffnbobnofaaU11
import Derived.Test.YtjagffnbobnofaaU12
import Derived.Test.YtjagffnbobnofaaU11
import Derived.Test.YtjagffnbobnofaaU9
import Derived.Test.YtjagffnbobnofaaU8
import Derived.Test.YtjagffnbobnofaaU1
import Derived.Test.YtjagffnbobnofaaU3
import Derived.Test.YtjagffnbobnofaaU7
import Derived.Test.YtjagffnbobnofaaU6
import Derived.Test.YtjagffnbobnofaaQ15
import Derived.Test.YtjagffnbobnofaaQ13
import Derived.Test.YtjagffnbobnofaaQ14
import Derived.Test.YtjagffnbobnofaaQ11
import Derived.Test.YtjagffnbobnofaaQ12
import Derived.Test.YtjagffnbobnofaaQ9
import Derived.Test.YtjagffnbobnofaaQ10
import Derived.Test.YtjagffnbobnofaaQ8
import Derived.Test.YtjagffnbobnofaaSN
import Derived.Test.YtjagffnbobnofaaQ6
import Derived.Test.YtjagffnbobnofaaQ7
import Derived.Test.YtjagffnbobnofaaQ4
import Derived.Test.YtjagffnbobnofaaQ5
import Derived.Test.YtjagffnbobnofaaQ2
import Derived.Test.YtjagffnbobnofaaQ1
import Derived.Test.YtjagffnbobnofaaQ3
import Derived.Test.YtjagffnbobnofaaQ0
import Derived.Test.YtjagffnbobnofaaSM
namespace Go.Proofs.Ytjagffnbobnofaa
open Go.RowKit Go.SL Go.Q18 Go.S15
attribute [local irreducible] Go.SL.RW Go.SL.CW Go.SL.RD Go.SL.Hd Go.SL.St
set_option linter.unusedVariables false
set_option linter.unusedSimpArgs false

theorem nm12 : (Try.f12.name == "runtime.NumGoroutine") = false := by kernel_rfl
theorem nm14 : (Try.f14.name == "runtime.NumGoroutine") = false := by kernel_rfl
theorem nm17 : (Try.f17.name == "runtime.NumGoroutine") = false := by kernel_rfl

theorem kindF_range (c : Int) {n : Int} (h : 0 < n) : 0 ≤ kindF c n ∧ kindF c n < n := by
  unfold kindF
  split
  · exact ⟨Int.emod_nonneg _ (by omega), Int.emod_lt_of_pos _ h⟩
  · exact ⟨Int.emod_nonneg _ (by omega), Int.emod_lt_of_pos _ h⟩

theorem full_walk {p : Pers} {w : World} {R : List Assn} (a b : Int) (ha : -9223372036854775808 ≤ a ∧ a ≤ 9223372036854775807) (hb : -9223372036854775808 ≤ b ∧ b ≤ 9223372036854775807) (hst : St p w (R)) :
    Calls Try.prog 3 #[.int .i64 a, .int .i64 b] w fun e w => ∃ q, p.le q ∧ e = .returned (.bool true) ∧ St q w R := by
  refine enter Try.func3 rfl (by simp) (n := 107) rfl fun τ hτ => ?_
  have hs0 : τ 0 = .int .i64 a := hτ 0 (by simp)
  have hs1 : τ 1 = .int .i64 b := hτ 1 (by simp)
  clear hτ
  refine CW.seq ?_
  refine CW.region ?_
  refine RW.soft Wd.a (v := .bool false) (by exact E.assign rfl) ?_
  refine RW.fin (fun τ => τ 0 = .int .i64 a ∧ τ 1 = .int .i64 b ∧ τ 4 = .bool false) ⟨up rfl hs0, up rfl hs1, tp⟩ ?_
  rintro τ ⟨hs0, hs1, hs4⟩
  refine CW.seq ?_
  refine CW.region ?_
  refine RW.hard Wd.a ?_
  refine H.call0 Try.func12 nm12 rfl map0 (Calls.mono (law15_shown hst) ?_)
  rintro _ w ⟨p, hle, rfl, hst⟩
  refine ⟨_, rfl, ?_⟩
  show RW _ _ _ _ _ _ _
  refine RW.soft Wd.a (v := .bool true) (by exact E.assign (AF_ev rfl tp)) ?_
  refine RW.fin (fun τ => τ 0 = .int .i64 a ∧ τ 1 = .int .i64 b ∧ τ 4 = .bool false ∧ τ 5 = .bool true) ⟨up rfl (up rfl hs0), up rfl (up rfl hs1), up rfl (up rfl hs4), tp⟩ ?_
  rintro τ ⟨hs0, hs1, hs4, hs5⟩
  refine CW.seq ?_
  refine CW.region ?_
  refine RW.hard Wd.a ?_
  refine H.call0 Try.func13 nm13 rfl map0 (Calls.mono (New_L hst) ?_)
  rintro _ w ⟨t, rfl, hst⟩
  refine ⟨_, rfl, ?_⟩
  show RW _ _ _ _ _ _ _
  refine RW.soft Wd.a (v := .pointer (some ⟨t, 0, none⟩)) (by exact E.assign (AF_ev rfl tp)) ?_
  refine RW.fin (fun τ => τ 0 = .int .i64 a ∧ τ 1 = .int .i64 b ∧ τ 4 = .bool false ∧ τ 5 = .bool true ∧ τ 6 = .pointer (some ⟨t, 0, none⟩)) ⟨up rfl (up rfl hs0), up rfl (up rfl hs1), up rfl (up rfl hs4), up rfl (up rfl hs5), tp⟩ ?_
  rintro τ ⟨hs0, hs1, hs4, hs5, hs6⟩
  refine CW.seq ?_
  refine CW.seq ?_
  refine CW.region ?_
  refine RW.soft Wd.a (v := .bool true) (by exact E.move (AF_ev rfl hs5)) ?_
  refine RW.soft Wd.a (v := .bool false) (by exact E.not (b := true) (AF_ev rfl tp)) ?_
  refine RW.soft Wd.a (v := .bool false) (by exact E.move (AF_ev rfl tp)) ?_
  refine RW.soft (by exact Wd.yes (x := 21) rfl (AF_ev rfl tp)) (v := .pointer (some ⟨t, 0, none⟩)) (by exact E.move (AF_ev rfl (up rfl (up rfl (up rfl hs6))))) ?_
  refine RW.soft (by exact Wd.yes (x := 21) rfl (AF_ev rfl (up rfl tp))) (v := .bool false) (by exact E.eqlP (p := (some ⟨t, 0, none⟩)) Try.underlying23 (AF_ev rfl tp) rfl) ?_
  refine RW.soft Wd.a (v := .bool false) (by exact E.pickF (AF_ev rfl (up rfl (up rfl tp))) (AF_ev rfl tp)) ?_
  refine RW.fin (fun τ => τ 0 = .int .i64 a ∧ τ 1 = .int .i64 b ∧ τ 4 = .bool false ∧ τ 5 = .bool true ∧ τ 6 = .pointer (some ⟨t, 0, none⟩) ∧ τ 24 = .bool false) ⟨up rfl (up rfl (up rfl (up rfl (up rfl (up rfl hs0))))), up rfl (up rfl (up rfl (up rfl (up rfl (up rfl hs1))))), up rfl (up rfl (up rfl (up rfl (up rfl (up rfl hs4))))), up rfl (up rfl (up rfl (up rfl (up rfl (up rfl hs5))))), up rfl (up rfl (up rfl (up rfl (up rfl (up rfl hs6))))), tp⟩ ?_
  rintro τ ⟨hs0, hs1, hs4, hs5, hs6, hs24⟩
  refine CW.condF (AF_ev rfl hs24) ?_
  refine CW.skip ?_
  refine Th.n ?_
  refine CW.seq ?_
  refine CW.region ?_
  refine RW.soft Wd.a (v := .int .i64 a) (by exact E.move (AF_ev rfl hs0)) ?_
  refine RW.hard Wd.a ?_
  refine H.call0 Try.func14 nm14 rfl (map2 (AF_ev rfl tp) rfl) (Calls.mono (kind15 a 31 (by omega) (by omega) hst) ?_)
  rintro _ w ⟨rfl, hst⟩
  refine ⟨_, rfl, ?_⟩
  show RW _ _ _ _ _ _ _
  refine RW.soft Wd.a (v := .int .i64 (kindF a 31)) (by exact E.assign (AF_ev rfl tp)) ?_
  refine RW.fin (fun τ => τ 0 = .int .i64 a ∧ τ 1 = .int .i64 b ∧ τ 4 = .bool false ∧ τ 5 = .bool true ∧ τ 6 = .pointer (some ⟨t, 0, none⟩) ∧ τ 7 = .int .i64 (kindF a 31) ∧ τ 24 = .bool false) ⟨up rfl (up rfl (up rfl hs0)), up rfl (up rfl (up rfl hs1)), up rfl (up rfl (up rfl hs4)), up rfl (up rfl (up rfl hs5)), up rfl (up rfl (up rfl hs6)), tp, up rfl (up rfl (up rfl hs24))⟩ ?_
  rintro τ ⟨hs0, hs1, hs4, hs5, hs6, hs7, hs24⟩
  refine CW.seq ?_
  refine CW.seq ?_
  have hkr := kindF_range a (n := 31) (by omega)
  obtain ⟨n, hn⟩ : ∃ z : Nat, ((z : Nat) : Int) = kindF a 31 := ⟨(kindF a 31).toNat, by omega⟩
  rw [← hn] at hs7
  refine CW.region ?_
  refine RW.soft Wd.a (v := .int .i64 0) (by exact E.assign rfl) ?_
  refine RW.fin (fun τ => τ 0 = .int .i64 a ∧ τ 1 = .int .i64 b ∧ τ 4 = .bool false ∧ τ 5 = .bool true ∧ τ 6 = .pointer (some ⟨t, 0, none⟩) ∧ τ 7 = .int .i64 ((n : Nat) : Int) ∧ τ 8 = .int .i64 0 ∧ τ 24 = .bool false) ⟨up rfl hs0, up rfl hs1, up rfl hs4, up rfl hs5, up rfl hs6, up rfl hs7, tp, up rfl hs24⟩ ?_
  rintro τ ⟨hs0, hs1, hs4, hs5, hs6, hs7, hs8, hs24⟩
  refine CW.block ?_
  refine CW.loop (fun (k : Nat) (τ : Fr) (w : World) => ∃ (i m : Nat), m ≤ 8 ∧ (m = i ∨ (m = 8 ∧ 8 ≤ i)) ∧ i ≤ n ∧ k = n - i ∧ τ 1 = .int .i64 b ∧ τ 5 = .bool true ∧ τ 6 = .pointer (some ⟨t, 0, none⟩) ∧ τ 7 = .int .i64 ((n : Nat) : Int) ∧ τ 8 = .int .i64 ((i : Nat) : Int) ∧ St p w (Tab p t (opd m) (((m : Nat) : Int) + 1) :: R)) (n - 0) ⟨0, 0, by omega, by omega, by omega, rfl, hs1, hs5, hs6, hs7, (int_eq (a := 0) hs8 (by omega)), hst⟩ ?_
  clear hst
  rintro k τ w ⟨i, m, hm8, hmi, hi, hki, hs1, hs5, hs6, hs7, hs8, hst⟩
  refine CW.seq ?_
  refine CW.seq ?_
  refine CW.region ?_
  refine RW.soft Wd.a (v := .int .i64 ((i : Nat) : Int)) (by exact E.move (AF_ev rfl hs8)) ?_
  refine RW.soft Wd.a (v := .int .i64 ((n : Nat) : Int)) (by exact E.move (AF_ev rfl (up rfl hs7))) ?_
  refine RW.soft Wd.a (v := .bool (decide (((i : Nat) : Int) < ((n : Nat) : Int)))) (by exact E.lss (k := .i64) (a := ((i : Nat) : Int)) (b := ((n : Nat) : Int)) (AF_ev rfl (up rfl tp)) (AF_ev rfl tp)) ?_
  refine RW.fin (fun τ => τ 1 = .int .i64 b ∧ τ 5 = .bool true ∧ τ 6 = .pointer (some ⟨t, 0, none⟩) ∧ τ 7 = .int .i64 ((n : Nat) : Int) ∧ τ 8 = .int .i64 ((i : Nat) : Int) ∧ τ 29 = .bool (decide (((i : Nat) : Int) < ((n : Nat) : Int)))) ⟨up rfl (up rfl (up rfl hs1)), up rfl (up rfl (up rfl hs5)), up rfl (up rfl (up rfl hs6)), up rfl (up rfl (up rfl hs7)), up rfl (up rfl (up rfl hs8)), tp⟩ ?_
  rintro τ ⟨hs1, hs5, hs6, hs7, hs8, hs29⟩
  refine CW.cond (AF_ev rfl hs29) (fun hc1 => ?_) (fun hc1 => ?_)
  · have hc1_ := hc1
    try simp only [decide_eq_true_eq, decide_eq_false_iff_not, Bool.and_eq_true, Bool.or_eq_true, Bool.and_eq_false_iff, Bool.or_eq_false_iff, Bool.not_eq_true', Bool.not_eq_false', beq_iff_eq, beq_eq_false_iff_ne, bne_iff_ne, bne_eq_false_iff_eq, ne_eq, Int.not_lt, Int.not_le, gt_iff_lt, ge_iff_le] at hc1_
    refine CW.skip ?_
    refine Th.n ?_
    refine CW.seq ?_
    refine CW.block ?_
    refine CW.seq ?_
    refine Or.elim (Bool.eq_false_or_eq_true (decide (((i : Nat) : Int) < 8))) (fun h8 => ?_) (fun h8 => ?_)
    · skip
      have h8_ := of_decide_eq_true h8
      have hmi2 : m = i := by omega
      rw [hmi2] at hst
      obtain ⟨o1, o2, o3, o4⟩ := opd_open (i := i) (by omega)
      refine CW.region ?_
      refine RW.soft Wd.a (v := .pointer (some ⟨t, 0, none⟩)) (by exact E.move (AF_ev rfl hs6)) ?_
      refine RW.hard Wd.a ?_
      refine H.call0 Try.func15 nm15 rfl (map1 (AF_ev rfl tp)) (Calls.mono (Open_C (L' := (opd (i + 1))) (n' := ((i + 1 : Nat) : Int) + 1) (a := ((i : Nat) : Int) + 1) (e := 0) o1 (by rw [o2]; omega) o3 o4 (by omega) hst) ?_)
      rintro _ w ⟨rfl, hst⟩
      refine ⟨_, rfl, ?_⟩
      show RW _ _ _ _ _ _ _
      refine RW.soft Wd.a (v := .tuple #[.int .i64 (((i : Nat) : Int) + 1), .int .i64 0]) (by exact E.move (AF_ev rfl tp)) ?_
      refine RW.soft Wd.a (v := .int .i64 (((i : Nat) : Int) + 1)) (by exact E.extract (vs := #[.int .i64 (((i : Nat) : Int) + 1), .int .i64 0]) (AF_ev rfl tp) rfl) ?_
      refine RW.soft Wd.a (v := .int .i64 0) (by exact E.extract (vs := #[.int .i64 (((i : Nat) : Int) + 1), .int .i64 0]) (AF_ev rfl (up rfl tp)) rfl) ?_
      refine RW.soft Wd.a (v := .int .i64 (((i : Nat) : Int) + 1)) (by exact E.assign (AF_ev rfl (up rfl tp))) ?_
      refine RW.soft Wd.a (v := .int .i64 0) (by exact E.assign (AF_ev rfl (up rfl tp))) ?_
      refine RW.fin (fun τ => τ 1 = .int .i64 b ∧ τ 5 = .bool true ∧ τ 6 = .pointer (some ⟨t, 0, none⟩) ∧ τ 7 = .int .i64 ((n : Nat) : Int) ∧ τ 8 = .int .i64 ((i : Nat) : Int) ∧ τ 9 = .int .i64 (((i : Nat) : Int) + 1) ∧ τ 10 = .int .i64 0 ∧ τ 29 = .bool true) ⟨up rfl (up rfl (up rfl (up rfl (up rfl (up rfl (up rfl hs1)))))), up rfl (up rfl (up rfl (up rfl (up rfl (up rfl (up rfl hs5)))))), up rfl (up rfl (up rfl (up rfl (up rfl (up rfl (up rfl hs6)))))), up rfl (up rfl (up rfl (up rfl (up rfl (up rfl (up rfl hs7)))))), up rfl (up rfl (up rfl (up rfl (up rfl (up rfl (up rfl hs8)))))), up rfl tp, tp, up rfl (up rfl (up rfl (up rfl (up rfl (up rfl (up rfl (Eq.trans hs29 (congrArg Value.bool hc1))))))))⟩ ?_
      rintro τ ⟨hs1, hs5, hs6, hs7, hs8, hs9, hs10, hs29⟩
      refine CW.seq ?_
      refine CW.region ?_
      refine RW.soft Wd.a (v := .int .i64 0) (by exact E.move (AF_ev rfl hs10)) ?_
      refine RW.soft Wd.a (v := .bool true) (by exact E.eql (k := .i64) (a := 0) (b := 0) (AF_ev rfl tp) rfl) ?_
      refine RW.soft Wd.a (v := .int .i64 ((i : Nat) : Int)) (by exact E.move (AF_ev rfl (up rfl (up rfl hs8)))) ?_
      refine RW.soft Wd.a (v := .bool true) (by exact E.b (a := decide (((i : Nat) : Int) < 8)) (E.lss (k := .i64) (a := ((i : Nat) : Int)) (b := 8) (AF_ev rfl tp) rfl) h8) ?_
      refine RW.soft Wd.a (v := .bool false) (by exact E.neqB (a := true) (b := true) Try.underlying4 (AF_ev rfl (up rfl (up rfl tp))) (AF_ev rfl tp)) ?_
      refine RW.soft Wd.a (v := .bool false) (by exact E.move (AF_ev rfl tp)) ?_
      refine RW.soft (by exact Wd.yes (x := 42) rfl (AF_ev rfl tp)) (v := .int .i64 0) (by exact E.move (AF_ev rfl (up rfl (up rfl (up rfl (up rfl (up rfl (up rfl hs10)))))))) ?_
      refine RW.soft (by exact Wd.yes (x := 42) rfl (AF_ev rfl (up rfl tp))) (v := .bool true) (by exact E.eql (k := .i64) (a := 0) (b := 0) (AF_ev rfl tp) rfl) ?_
      refine RW.soft (by exact Wd.yes (x := 42) rfl (AF_ev rfl (up rfl (up rfl tp)))) (v := .bool true) (by exact E.move (AF_ev rfl tp)) ?_
      refine RW.soft (by exact Wd.yes (x := 45) rfl (AF_ev rfl tp)) (v := .int .i64 (((i : Nat) : Int) + 1)) (by exact E.move (AF_ev rfl (up rfl (up rfl (up rfl (up rfl (up rfl (up rfl (up rfl (up rfl (up rfl hs9))))))))))) ?_
      refine RW.soft (by exact Wd.yes (x := 45) rfl (AF_ev rfl (up rfl tp))) (v := .int .i64 ((i : Nat) : Int)) (by exact E.move (AF_ev rfl (up rfl (up rfl (up rfl (up rfl (up rfl (up rfl (up rfl (up rfl (up rfl (up rfl hs8)))))))))))) ?_
      refine RW.soft (by exact Wd.yes (x := 45) rfl (AF_ev rfl (up rfl (up rfl tp)))) (v := .int .i64 (((i : Nat) : Int) + 1)) (by exact E.add (k := .i64) (a := ((i : Nat) : Int)) (b := 1) (AF_ev rfl tp) rfl (show IntKind.i64.wrap (((i : Nat) : Int) + 1) = ((i : Nat) : Int) + 1 from (by rw [IntWalk.i64_in _ (by omega)]))) ?_
      refine RW.soft (by exact Wd.yes (x := 45) rfl (AF_ev rfl (up rfl (up rfl (up rfl tp))))) (v := .bool false) (by exact E.b (a := (((i : Nat) : Int) + 1) != (((i : Nat) : Int) + 1)) (E.neq (k := .i64) (a := ((i : Nat) : Int) + 1) (b := ((i : Nat) : Int) + 1) (AF_ev rfl (up rfl (up rfl tp))) (AF_ev rfl tp)) (by simp)) ?_
      refine RW.soft (by exact Wd.yes (x := 42) rfl (AF_ev rfl (up rfl (up rfl (up rfl (up rfl (up rfl (up rfl (up rfl tp))))))))) (v := .bool false) (by exact E.pickT (AF_ev rfl (up rfl (up rfl (up rfl (up rfl tp))))) (AF_ev rfl tp)) ?_
      refine RW.soft Wd.a (v := .bool false) (by exact E.pickF (AF_ev rfl (up rfl (up rfl (up rfl (up rfl (up rfl (up rfl (up rfl (up rfl tp))))))))) (AF_ev rfl tp)) ?_
      refine RW.soft Wd.a (v := .bool false) (by exact E.move (AF_ev rfl tp)) ?_
      refine RW.soft (by exact Wd.yes (x := 52) rfl (AF_ev rfl tp)) (v := .int .i64 0) (by exact E.move (AF_ev rfl (up rfl (up rfl (up rfl (up rfl (up rfl (up rfl (up rfl (up rfl (up rfl (up rfl (up rfl (up rfl (up rfl (up rfl (up rfl (up rfl hs10)))))))))))))))))) ?_
      refine RW.soft (by exact Wd.yes (x := 52) rfl (AF_ev rfl (up rfl tp))) (v := .bool false) (by exact E.neq (k := .i64) (a := 0) (b := 0) (AF_ev rfl tp) rfl) ?_
      refine RW.soft (by exact Wd.yes (x := 52) rfl (AF_ev rfl (up rfl (up rfl tp)))) (v := .bool false) (by exact E.move (AF_ev rfl tp)) ?_
      refine RW.pass (by exact Wd.no (x := 55) (b := false) rfl (AF_ev rfl tp) rfl) ?_
      refine RW.pass (by exact Wd.no (x := 55) (b := false) rfl (AF_ev rfl (up rfl tp)) rfl) ?_
      refine RW.soft (by exact Wd.yes (x := 52) rfl (AF_ev rfl (up rfl (up rfl (up rfl (up rfl (up rfl tp))))))) (v := .bool false) (by exact E.pickF (AF_ev rfl (up rfl (up rfl tp))) rfl) ?_
      refine RW.soft Wd.a (v := .bool false) (by exact E.pickF (AF_ev rfl (up rfl (up rfl (up rfl (up rfl (up rfl (up rfl tp))))))) (AF_ev rfl tp)) ?_
      refine RW.fin (fun τ => τ 1 = .int .i64 b ∧ τ 5 = .bool true ∧ τ 6 = .pointer (some ⟨t, 0, none⟩) ∧ τ 7 = .int .i64 ((n : Nat) : Int) ∧ τ 8 = .int .i64 ((i : Nat) : Int) ∧ τ 9 = .int .i64 (((i : Nat) : Int) + 1) ∧ τ 10 = .int .i64 0 ∧ τ 29 = .bool true ∧ τ 59 = .bool false) ⟨up rfl (up rfl (up rfl (up rfl (up rfl (up rfl (up rfl (up rfl (up rfl (up rfl (up rfl (up rfl (up rfl (up rfl (up rfl (up rfl (up rfl (up rfl (up rfl (up rfl (up rfl (up rfl (up rfl hs1)))))))))))))))))))))), up rfl (up rfl (up rfl (up rfl (up rfl (up rfl (up rfl (up rfl (up rfl (up rfl (up rfl (up rfl (up rfl (up rfl (up rfl (up rfl (up rfl (up rfl (up rfl (up rfl (up rfl (up rfl (up rfl hs5)))))))))))))))))))))), up rfl (up rfl (up rfl (up rfl (up rfl (up rfl (up rfl (up rfl (up rfl (up rfl (up rfl (up rfl (up rfl (up rfl (up rfl (up rfl (up rfl (up rfl (up rfl (up rfl (up rfl (up rfl (up rfl hs6)))))))))))))))))))))), up rfl (up rfl (up rfl (up rfl (up rfl (up rfl (up rfl (up rfl (up rfl (up rfl (up rfl (up rfl (up rfl (up rfl (up rfl (up rfl (up rfl (up rfl (up rfl (up rfl (up rfl (up rfl (up rfl hs7)))))))))))))))))))))), up rfl (up rfl (up rfl (up rfl (up rfl (up rfl (up rfl (up rfl (up rfl (up rfl (up rfl (up rfl (up rfl (up rfl (up rfl (up rfl (up rfl (up rfl (up rfl (up rfl (up rfl (up rfl (up rfl hs8)))))))))))))))))))))), up rfl (up rfl (up rfl (up rfl (up rfl (up rfl (up rfl (up rfl (up rfl (up rfl (up rfl (up rfl (up rfl (up rfl (up rfl (up rfl (up rfl (up rfl (up rfl (up rfl (up rfl (up rfl (up rfl hs9)))))))))))))))))))))), up rfl (up rfl (up rfl (up rfl (up rfl (up rfl (up rfl (up rfl (up rfl (up rfl (up rfl (up rfl (up rfl (up rfl (up rfl (up rfl (up rfl (up rfl (up rfl (up rfl (up rfl (up rfl (up rfl hs10)))))))))))))))))))))), up rfl (up rfl (up rfl (up rfl (up rfl (up rfl (up rfl (up rfl (up rfl (up rfl (up rfl (up rfl (up rfl (up rfl (up rfl (up rfl (up rfl (up rfl (up rfl (up rfl (up rfl (up rfl (up rfl hs29)))))))))))))))))))))), tp⟩ ?_
      rintro τ ⟨hs1, hs5, hs6, hs7, hs8, hs9, hs10, hs29, hs59⟩
      refine CW.condF (AF_ev rfl hs59) ?_
      refine CW.skip ?_
      refine Bl.n ?_
      refine Th.n ?_
      refine CW.region ?_
      refine RW.soft Wd.a (v := .int .i64 ((i : Nat) : Int)) (by exact E.move (AF_ev rfl hs8)) ?_
      refine RW.soft Wd.a (v := .int .i64 (((i : Nat) : Int) + 1)) (by exact E.add (k := .i64) (a := ((i : Nat) : Int)) (b := 1) (AF_ev rfl tp) rfl (show IntKind.i64.wrap (((i : Nat) : Int) + 1) = ((i : Nat) : Int) + 1 from (by rw [IntWalk.i64_in _ (by omega)]))) ?_
      refine RW.soft Wd.a (v := .int .i64 (((i : Nat) : Int) + 1)) (by exact E.assign (AF_ev rfl tp)) ?_
      refine RW.nil ?_
      refine Th.n ?_
      exact ⟨n - (i + 1), by omega, i + 1, i + 1, (by omega), (by omega), (by omega), rfl, up rfl (up rfl (up rfl hs1)), up rfl (up rfl (up rfl hs5)), up rfl (up rfl (up rfl hs6)), up rfl (up rfl (up rfl hs7)), (int_eq (a := ((i : Nat) : Int) + 1) tp (by omega)), hst⟩
    · skip
      have h8_ := of_decide_eq_false h8
      have hmi2 : m = 8 := by omega
      rw [hmi2] at hst
      obtain ⟨o1, o2, o3, o4⟩ := opd_shut (n := ((8 : Nat) : Int) + 1)
      refine CW.region ?_
      refine RW.soft Wd.a (v := .pointer (some ⟨t, 0, none⟩)) (by exact E.move (AF_ev rfl hs6)) ?_
      refine RW.hard Wd.a ?_
      refine H.call0 Try.func15 nm15 rfl (map1 (AF_ev rfl tp)) (Calls.mono (Open_C (L' := (opd 8)) (n' := ((8 : Nat) : Int) + 1) (a := 0) (e := 134) o1 o2 o3 o4 (by omega) hst) ?_)
      rintro _ w ⟨rfl, hst⟩
      refine ⟨_, rfl, ?_⟩
      show RW _ _ _ _ _ _ _
      refine RW.soft Wd.a (v := .tuple #[.int .i64 0, .int .i64 134]) (by exact E.move (AF_ev rfl tp)) ?_
      refine RW.soft Wd.a (v := .int .i64 0) (by exact E.extract (vs := #[.int .i64 0, .int .i64 134]) (AF_ev rfl tp) rfl) ?_
      refine RW.soft Wd.a (v := .int .i64 134) (by exact E.extract (vs := #[.int .i64 0, .int .i64 134]) (AF_ev rfl (up rfl tp)) rfl) ?_
      refine RW.soft Wd.a (v := .int .i64 0) (by exact E.assign (AF_ev rfl (up rfl tp))) ?_
      refine RW.soft Wd.a (v := .int .i64 134) (by exact E.assign (AF_ev rfl (up rfl tp))) ?_
      refine RW.fin (fun τ => τ 1 = .int .i64 b ∧ τ 5 = .bool true ∧ τ 6 = .pointer (some ⟨t, 0, none⟩) ∧ τ 7 = .int .i64 ((n : Nat) : Int) ∧ τ 8 = .int .i64 ((i : Nat) : Int) ∧ τ 9 = .int .i64 0 ∧ τ 10 = .int .i64 134 ∧ τ 29 = .bool true) ⟨up rfl (up rfl (up rfl (up rfl (up rfl (up rfl (up rfl hs1)))))), up rfl (up rfl (up rfl (up rfl (up rfl (up rfl (up rfl hs5)))))), up rfl (up rfl (up rfl (up rfl (up rfl (up rfl (up rfl hs6)))))), up rfl (up rfl (up rfl (up rfl (up rfl (up rfl (up rfl hs7)))))), up rfl (up rfl (up rfl (up rfl (up rfl (up rfl (up rfl hs8)))))), up rfl tp, tp, up rfl (up rfl (up rfl (up rfl (up rfl (up rfl (up rfl (Eq.trans hs29 (congrArg Value.bool hc1))))))))⟩ ?_
      rintro τ ⟨hs1, hs5, hs6, hs7, hs8, hs9, hs10, hs29⟩
      refine CW.seq ?_
      refine CW.region ?_
      refine RW.soft Wd.a (v := .int .i64 134) (by exact E.move (AF_ev rfl hs10)) ?_
      refine RW.soft Wd.a (v := .bool false) (by exact E.eql (k := .i64) (a := 134) (b := 0) (AF_ev rfl tp) rfl) ?_
      refine RW.soft Wd.a (v := .int .i64 ((i : Nat) : Int)) (by exact E.move (AF_ev rfl (up rfl (up rfl hs8)))) ?_
      refine RW.soft Wd.a (v := .bool false) (by exact E.b (a := decide (((i : Nat) : Int) < 8)) (E.lss (k := .i64) (a := ((i : Nat) : Int)) (b := 8) (AF_ev rfl tp) rfl) h8) ?_
      refine RW.soft Wd.a (v := .bool false) (by exact E.neqB (a := false) (b := false) Try.underlying4 (AF_ev rfl (up rfl (up rfl tp))) (AF_ev rfl tp)) ?_
      refine RW.soft Wd.a (v := .bool false) (by exact E.move (AF_ev rfl tp)) ?_
      refine RW.soft (by exact Wd.yes (x := 42) rfl (AF_ev rfl tp)) (v := .int .i64 134) (by exact E.move (AF_ev rfl (up rfl (up rfl (up rfl (up rfl (up rfl (up rfl hs10)))))))) ?_
      refine RW.soft (by exact Wd.yes (x := 42) rfl (AF_ev rfl (up rfl tp))) (v := .bool false) (by exact E.eql (k := .i64) (a := 134) (b := 0) (AF_ev rfl tp) rfl) ?_
      refine RW.soft (by exact Wd.yes (x := 42) rfl (AF_ev rfl (up rfl (up rfl tp)))) (v := .bool false) (by exact E.move (AF_ev rfl tp)) ?_
      refine RW.pass (by exact Wd.no (x := 45) (b := false) rfl (AF_ev rfl tp) rfl) ?_
      refine RW.pass (by exact Wd.no (x := 45) (b := false) rfl (AF_ev rfl (up rfl tp)) rfl) ?_
      refine RW.pass (by exact Wd.no (x := 45) (b := false) rfl (AF_ev rfl (up rfl (up rfl tp))) rfl) ?_
      refine RW.pass (by exact Wd.no (x := 45) (b := false) rfl (AF_ev rfl (up rfl (up rfl (up rfl tp)))) rfl) ?_
      refine RW.soft (by exact Wd.yes (x := 42) rfl (AF_ev rfl (up rfl (up rfl (up rfl (up rfl (up rfl (up rfl (up rfl tp))))))))) (v := .bool false) (by exact E.pickF (AF_ev rfl (up rfl (up rfl (up rfl (up rfl tp))))) rfl) ?_
      refine RW.soft Wd.a (v := .bool false) (by exact E.pickF (AF_ev rfl (up rfl (up rfl (up rfl (up rfl (up rfl (up rfl (up rfl (up rfl tp))))))))) (AF_ev rfl tp)) ?_
      refine RW.soft Wd.a (v := .bool false) (by exact E.move (AF_ev rfl tp)) ?_
      refine RW.soft (by exact Wd.yes (x := 52) rfl (AF_ev rfl tp)) (v := .int .i64 134) (by exact E.move (AF_ev rfl (up rfl (up rfl (up rfl (up rfl (up rfl (up rfl (up rfl (up rfl (up rfl (up rfl (up rfl (up rfl (up rfl (up rfl (up rfl (up rfl hs10)))))))))))))))))) ?_
      refine RW.soft (by exact Wd.yes (x := 52) rfl (AF_ev rfl (up rfl tp))) (v := .bool true) (by exact E.neq (k := .i64) (a := 134) (b := 0) (AF_ev rfl tp) rfl) ?_
      refine RW.soft (by exact Wd.yes (x := 52) rfl (AF_ev rfl (up rfl (up rfl tp)))) (v := .bool true) (by exact E.move (AF_ev rfl tp)) ?_
      refine RW.soft (by exact Wd.yes (x := 55) rfl (AF_ev rfl tp)) (v := .int .i64 134) (by exact E.move (AF_ev rfl (up rfl (up rfl (up rfl (up rfl (up rfl (up rfl (up rfl (up rfl (up rfl (up rfl (up rfl (up rfl (up rfl (up rfl (up rfl (up rfl (up rfl (up rfl (up rfl hs10))))))))))))))))))))) ?_
      refine RW.soft (by exact Wd.yes (x := 55) rfl (AF_ev rfl (up rfl tp))) (v := .bool false) (by exact E.neq (k := .i64) (a := 134) (b := 134) (AF_ev rfl tp) rfl) ?_
      refine RW.soft (by exact Wd.yes (x := 52) rfl (AF_ev rfl (up rfl (up rfl (up rfl (up rfl (up rfl tp))))))) (v := .bool false) (by exact E.pickT (AF_ev rfl (up rfl (up rfl tp))) (AF_ev rfl tp)) ?_
      refine RW.soft Wd.a (v := .bool false) (by exact E.pickF (AF_ev rfl (up rfl (up rfl (up rfl (up rfl (up rfl (up rfl tp))))))) (AF_ev rfl tp)) ?_
      refine RW.fin (fun τ => τ 1 = .int .i64 b ∧ τ 5 = .bool true ∧ τ 6 = .pointer (some ⟨t, 0, none⟩) ∧ τ 7 = .int .i64 ((n : Nat) : Int) ∧ τ 8 = .int .i64 ((i : Nat) : Int) ∧ τ 9 = .int .i64 0 ∧ τ 10 = .int .i64 134 ∧ τ 29 = .bool true ∧ τ 59 = .bool false) ⟨up rfl (up rfl (up rfl (up rfl (up rfl (up rfl (up rfl (up rfl (up rfl (up rfl (up rfl (up rfl (up rfl (up rfl (up rfl (up rfl (up rfl (up rfl (up rfl (up rfl (up rfl (up rfl (up rfl hs1)))))))))))))))))))))), up rfl (up rfl (up rfl (up rfl (up rfl (up rfl (up rfl (up rfl (up rfl (up rfl (up rfl (up rfl (up rfl (up rfl (up rfl (up rfl (up rfl (up rfl (up rfl (up rfl (up rfl (up rfl (up rfl hs5)))))))))))))))))))))), up rfl (up rfl (up rfl (up rfl (up rfl (up rfl (up rfl (up rfl (up rfl (up rfl (up rfl (up rfl (up rfl (up rfl (up rfl (up rfl (up rfl (up rfl (up rfl (up rfl (up rfl (up rfl (up rfl hs6)))))))))))))))))))))), up rfl (up rfl (up rfl (up rfl (up rfl (up rfl (up rfl (up rfl (up rfl (up rfl (up rfl (up rfl (up rfl (up rfl (up rfl (up rfl (up rfl (up rfl (up rfl (up rfl (up rfl (up rfl (up rfl hs7)))))))))))))))))))))), up rfl (up rfl (up rfl (up rfl (up rfl (up rfl (up rfl (up rfl (up rfl (up rfl (up rfl (up rfl (up rfl (up rfl (up rfl (up rfl (up rfl (up rfl (up rfl (up rfl (up rfl (up rfl (up rfl hs8)))))))))))))))))))))), up rfl (up rfl (up rfl (up rfl (up rfl (up rfl (up rfl (up rfl (up rfl (up rfl (up rfl (up rfl (up rfl (up rfl (up rfl (up rfl (up rfl (up rfl (up rfl (up rfl (up rfl (up rfl (up rfl hs9)))))))))))))))))))))), up rfl (up rfl (up rfl (up rfl (up rfl (up rfl (up rfl (up rfl (up rfl (up rfl (up rfl (up rfl (up rfl (up rfl (up rfl (up rfl (up rfl (up rfl (up rfl (up rfl (up rfl (up rfl (up rfl hs10)))))))))))))))))))))), up rfl (up rfl (up rfl (up rfl (up rfl (up rfl (up rfl (up rfl (up rfl (up rfl (up rfl (up rfl (up rfl (up rfl (up rfl (up rfl (up rfl (up rfl (up rfl (up rfl (up rfl (up rfl (up rfl hs29)))))))))))))))))))))), tp⟩ ?_
      rintro τ ⟨hs1, hs5, hs6, hs7, hs8, hs9, hs10, hs29, hs59⟩
      refine CW.condF (AF_ev rfl hs59) ?_
      refine CW.skip ?_
      refine Bl.n ?_
      refine Th.n ?_
      refine CW.region ?_
      refine RW.soft Wd.a (v := .int .i64 ((i : Nat) : Int)) (by exact E.move (AF_ev rfl hs8)) ?_
      refine RW.soft Wd.a (v := .int .i64 (((i : Nat) : Int) + 1)) (by exact E.add (k := .i64) (a := ((i : Nat) : Int)) (b := 1) (AF_ev rfl tp) rfl (show IntKind.i64.wrap (((i : Nat) : Int) + 1) = ((i : Nat) : Int) + 1 from (by rw [IntWalk.i64_in _ (by omega)]))) ?_
      refine RW.soft Wd.a (v := .int .i64 (((i : Nat) : Int) + 1)) (by exact E.assign (AF_ev rfl tp)) ?_
      refine RW.nil ?_
      refine Th.n ?_
      exact ⟨n - (i + 1), by omega, i + 1, 8, (by omega), (by omega), (by omega), rfl, up rfl (up rfl (up rfl hs1)), up rfl (up rfl (up rfl hs5)), up rfl (up rfl (up rfl hs6)), up rfl (up rfl (up rfl hs7)), (int_eq (a := ((i : Nat) : Int) + 1) tp (by omega)), hst⟩
  · have hc1_ := hc1
    try simp only [decide_eq_true_eq, decide_eq_false_iff_not, Bool.and_eq_true, Bool.or_eq_true, Bool.and_eq_false_iff, Bool.or_eq_false_iff, Bool.not_eq_true', Bool.not_eq_false', beq_iff_eq, beq_eq_false_iff_ne, bne_iff_ne, bne_eq_false_iff_eq, ne_eq, Int.not_lt, Int.not_le, gt_iff_lt, ge_iff_le] at hc1_
    refine CW.exit ?_
    refine Th.x ?_
    refine Th.x ?_
    refine Bl.x ?_
    refine Th.n ?_
    refine CW.seq ?_
    refine CW.region ?_
    refine RW.soft Wd.a (v := .int .i64 ((n : Nat) : Int)) (by exact E.move (AF_ev rfl hs7)) ?_
    refine RW.soft Wd.a (v := .int .i64 (min ((n : Nat) : Int) 8)) (by exact E.min (k := .i64) (a := ((n : Nat) : Int)) (b := 8) (AF_ev rfl tp) rfl (by rw [Int.min_def]; split <;> split <;> omega)) ?_
    refine RW.soft Wd.a (v := .int .i64 (min ((n : Nat) : Int) 8)) (by exact E.assign (AF_ev rfl tp)) ?_
    refine RW.fin (fun τ => τ 1 = .int .i64 b ∧ τ 5 = .bool true ∧ τ 6 = .pointer (some ⟨t, 0, none⟩) ∧ τ 7 = .int .i64 ((n : Nat) : Int) ∧ τ 8 = .int .i64 ((i : Nat) : Int) ∧ τ 11 = .int .i64 (min ((n : Nat) : Int) 8) ∧ τ 29 = .bool false) ⟨up rfl (up rfl (up rfl hs1)), up rfl (up rfl (up rfl hs5)), up rfl (up rfl (up rfl hs6)), up rfl (up rfl (up rfl hs7)), up rfl (up rfl (up rfl hs8)), tp, up rfl (up rfl (up rfl (Eq.trans hs29 (congrArg Value.bool hc1))))⟩ ?_
    rintro τ ⟨hs1, hs5, hs6, hs7, hs8, hs11, hs29⟩
    refine CW.seq ?_
    refine CW.seq ?_
    have hmn : min ((n : Nat) : Int) 8 = ((m : Nat) : Int) := by omega
    rw [hmn] at hs11
    refine CW.region ?_
    refine RW.soft Wd.a (v := .int .i64 ((m : Nat) : Int)) (by exact E.move (AF_ev rfl hs11)) ?_
    refine RW.soft Wd.a (v := .bool (((m : Nat) : Int) == 0)) (by exact E.eql (k := .i64) (a := ((m : Nat) : Int)) (b := 0) (AF_ev rfl tp) rfl) ?_
    refine RW.fin (fun τ => τ 1 = .int .i64 b ∧ τ 5 = .bool true ∧ τ 6 = .pointer (some ⟨t, 0, none⟩) ∧ τ 7 = .int .i64 ((n : Nat) : Int) ∧ τ 8 = .int .i64 ((i : Nat) : Int) ∧ τ 11 = .int .i64 ((m : Nat) : Int) ∧ τ 29 = .bool false ∧ τ 63 = .bool (((m : Nat) : Int) == 0)) ⟨up rfl (up rfl hs1), up rfl (up rfl hs5), up rfl (up rfl hs6), up rfl (up rfl hs7), up rfl (up rfl hs8), up rfl (up rfl hs11), up rfl (up rfl hs29), tp⟩ ?_
    rintro τ ⟨hs1, hs5, hs6, hs7, hs8, hs11, hs29, hs63⟩
    refine CW.cond (AF_ev rfl hs63) (fun hc2 => ?_) (fun hc2 => ?_)
    · have hc2_ := hc2
      try simp only [decide_eq_true_eq, decide_eq_false_iff_not, Bool.and_eq_true, Bool.or_eq_true, Bool.and_eq_false_iff, Bool.or_eq_false_iff, Bool.not_eq_true', Bool.not_eq_false', beq_iff_eq, beq_eq_false_iff_ne, bne_iff_ne, bne_eq_false_iff_eq, ne_eq, Int.not_lt, Int.not_le, gt_iff_lt, ge_iff_le] at hc2_
      refine CW.seq ?_
      have hm0 : m = 0 := by omega
      refine CW.region ?_
      refine RW.soft Wd.a (v := .pointer (some ⟨t, 0, none⟩)) (by exact E.move (AF_ev rfl hs6)) ?_
      refine RW.hard Wd.a ?_
      refine H.call0 Try.func16 nm16 rfl (map2 (AF_ev rfl tp) rfl) (Calls.mono (Expire_C (L' := expL (opd m) 1) (e := expE (opd m) 1) 1 rfl rfl hst) ?_)
      rintro _ w ⟨rfl, hst⟩
      refine ⟨_, rfl, ?_⟩
      show RW _ _ _ _ _ _ _
      refine RW.soft Wd.a (v := .bool true) (by exact E.b (a := (expE (opd m) 1) == 150) (E.eql (k := .i64) (a := expE (opd m) 1) (b := 150) (AF_ev rfl tp) rfl) (by rw [hm0]; rfl)) ?_
      refine RW.soft Wd.a (v := .bool true) (by exact E.assign (AF_ev rfl tp)) ?_
      refine RW.fin (fun τ => τ 1 = .int .i64 b ∧ τ 4 = .bool true ∧ τ 5 = .bool true ∧ τ 6 = .pointer (some ⟨t, 0, none⟩) ∧ τ 7 = .int .i64 ((n : Nat) : Int) ∧ τ 8 = .int .i64 ((i : Nat) : Int) ∧ τ 11 = .int .i64 ((m : Nat) : Int) ∧ τ 29 = .bool false ∧ τ 63 = .bool true) ⟨up rfl (up rfl (up rfl (up rfl hs1))), tp, up rfl (up rfl (up rfl (up rfl hs5))), up rfl (up rfl (up rfl (up rfl hs6))), up rfl (up rfl (up rfl (up rfl hs7))), up rfl (up rfl (up rfl (up rfl hs8))), up rfl (up rfl (up rfl (up rfl hs11))), up rfl (up rfl (up rfl (up rfl hs29))), up rfl (up rfl (up rfl (up rfl (Eq.trans hs63 (congrArg Value.bool hc2)))))⟩ ?_
      rintro τ ⟨hs1, hs4, hs5, hs6, hs7, hs8, hs11, hs29, hs63⟩
      refine CW.ret ?_
      refine Th.r ?_
      refine ret1 (v := .bool true) rfl (by exact (.tmp (AF_ev rfl hs4) .nil)) ?_
      have hst := (hst.take .here).drop
      exact ⟨_, hle, rfl, hst⟩
    · have hc2_ := hc2
      try simp only [decide_eq_true_eq, decide_eq_false_iff_not, Bool.and_eq_true, Bool.or_eq_true, Bool.and_eq_false_iff, Bool.or_eq_false_iff, Bool.not_eq_true', Bool.not_eq_false', beq_iff_eq, beq_eq_false_iff_ne, bne_iff_ne, bne_eq_false_iff_eq, ne_eq, Int.not_lt, Int.not_le, gt_iff_lt, ge_iff_le] at hc2_
      refine CW.skip ?_
      refine Th.n ?_
      refine CW.seq ?_
      have hkb := kindF_range b (n := ((m : Nat) : Int)) (by omega)
      obtain ⟨ht1, ht2, ht3, ht4, ht5, ht6⟩ := opd_turn (m := m) (by omega) (id := 1 + kindF b ((m : Nat) : Int)) (by omega)
      refine CW.region ?_
      refine RW.soft Wd.a (v := .pointer (some ⟨t, 0, none⟩)) (by exact E.move (AF_ev rfl hs6)) ?_
      refine RW.soft Wd.a (v := .int .i64 b) (by exact E.move (AF_ev rfl (up rfl hs1))) ?_
      refine RW.soft Wd.a (v := .int .i64 ((m : Nat) : Int)) (by exact E.move (AF_ev rfl (up rfl (up rfl hs11)))) ?_
      refine RW.hard Wd.a ?_
      refine H.call0 Try.func14 nm14 rfl (map2 (AF_ev rfl (up rfl tp)) (AF_ev rfl tp)) (Calls.mono (kind15 b ((m : Nat) : Int) (by omega) (by omega) hst) ?_)
      rintro _ w ⟨rfl, hst⟩
      refine ⟨_, rfl, ?_⟩
      show RW _ _ _ _ _ _ _
      refine RW.soft Wd.a (v := .int .i64 (1 + (kindF b ((m : Nat) : Int)))) (by exact E.add (k := .i64) (a := 1) (b := kindF b ((m : Nat) : Int)) rfl (AF_ev rfl tp) (show IntKind.i64.wrap (1 + (kindF b ((m : Nat) : Int))) = 1 + (kindF b ((m : Nat) : Int)) from (by rw [IntWalk.i64_in _ (by omega)]))) ?_
      refine RW.hard Wd.a ?_
      refine H.call0 Try.func16 nm16 rfl (map2 (AF_ev rfl (up rfl (up rfl (up rfl (up rfl tp))))) (AF_ev rfl tp)) (Calls.mono (Expire_C (L' := expL (opd m) (1 + (kindF b ((m : Nat) : Int)))) (e := expE (opd m) (1 + (kindF b ((m : Nat) : Int)))) (1 + (kindF b ((m : Nat) : Int))) rfl rfl hst) ?_)
      rintro _ w ⟨rfl, hst⟩
      refine ⟨_, rfl, ?_⟩
      show RW _ _ _ _ _ _ _
      refine RW.soft Wd.a (v := .int .i64 (expE (opd m) (1 + (kindF b ((m : Nat) : Int))))) (by exact E.assign (AF_ev rfl tp)) ?_
      refine RW.fin (fun τ => τ 1 = .int .i64 b ∧ τ 5 = .bool true ∧ τ 6 = .pointer (some ⟨t, 0, none⟩) ∧ τ 7 = .int .i64 ((n : Nat) : Int) ∧ τ 8 = .int .i64 ((i : Nat) : Int) ∧ τ 11 = .int .i64 ((m : Nat) : Int) ∧ τ 12 = .int .i64 (expE (opd m) (1 + (kindF b ((m : Nat) : Int)))) ∧ τ 29 = .bool false ∧ τ 63 = .bool false) ⟨up rfl (up rfl (up rfl (up rfl (up rfl (up rfl (up rfl hs1)))))), up rfl (up rfl (up rfl (up rfl (up rfl (up rfl (up rfl hs5)))))), up rfl (up rfl (up rfl (up rfl (up rfl (up rfl (up rfl hs6)))))), up rfl (up rfl (up rfl (up rfl (up rfl (up rfl (up rfl hs7)))))), up rfl (up rfl (up rfl (up rfl (up rfl (up rfl (up rfl hs8)))))), up rfl (up rfl (up rfl (up rfl (up rfl (up rfl (up rfl hs11)))))), tp, up rfl (up rfl (up rfl (up rfl (up rfl (up rfl (up rfl hs29)))))), up rfl (up rfl (up rfl (up rfl (up rfl (up rfl (up rfl (Eq.trans hs63 (congrArg Value.bool hc2))))))))⟩ ?_
      rintro τ ⟨hs1, hs5, hs6, hs7, hs8, hs11, hs12, hs29, hs63⟩
      refine CW.seq ?_
      refine CW.region ?_
      refine RW.soft Wd.a (v := .pointer (some ⟨t, 0, none⟩)) (by exact E.move (AF_ev rfl hs6)) ?_
      refine RW.hard Wd.a ?_
      refine H.call0 Try.func15 nm15 rfl (map1 (AF_ev rfl tp)) (Calls.mono (Open_C (L' := openL (expL (opd m) (1 + (kindF b ((m : Nat) : Int)))) (((m : Nat) : Int) + 1)) (n' := openN (expL (opd m) (1 + (kindF b ((m : Nat) : Int)))) (((m : Nat) : Int) + 1)) (a := openA (expL (opd m) (1 + (kindF b ((m : Nat) : Int)))) (((m : Nat) : Int) + 1)) (e := openE (expL (opd m) (1 + (kindF b ((m : Nat) : Int)))) (((m : Nat) : Int) + 1)) rfl rfl rfl rfl (by omega) hst) ?_)
      rintro _ w ⟨rfl, hst⟩
      refine ⟨_, rfl, ?_⟩
      show RW _ _ _ _ _ _ _
      refine RW.soft Wd.a (v := .tuple #[.int .i64 (openA (expL (opd m) (1 + (kindF b ((m : Nat) : Int)))) (((m : Nat) : Int) + 1)), .int .i64 (openE (expL (opd m) (1 + (kindF b ((m : Nat) : Int)))) (((m : Nat) : Int) + 1))]) (by exact E.move (AF_ev rfl tp)) ?_
      refine RW.soft Wd.a (v := .int .i64 (openA (expL (opd m) (1 + (kindF b ((m : Nat) : Int)))) (((m : Nat) : Int) + 1))) (by exact E.extract (vs := #[.int .i64 (openA (expL (opd m) (1 + (kindF b ((m : Nat) : Int)))) (((m : Nat) : Int) + 1)), .int .i64 (openE (expL (opd m) (1 + (kindF b ((m : Nat) : Int)))) (((m : Nat) : Int) + 1))]) (AF_ev rfl tp) rfl) ?_
      refine RW.soft Wd.a (v := .int .i64 (openE (expL (opd m) (1 + (kindF b ((m : Nat) : Int)))) (((m : Nat) : Int) + 1))) (by exact E.extract (vs := #[.int .i64 (openA (expL (opd m) (1 + (kindF b ((m : Nat) : Int)))) (((m : Nat) : Int) + 1)), .int .i64 (openE (expL (opd m) (1 + (kindF b ((m : Nat) : Int)))) (((m : Nat) : Int) + 1))]) (AF_ev rfl (up rfl tp)) rfl) ?_
      refine RW.soft Wd.a (v := .int .i64 (openA (expL (opd m) (1 + (kindF b ((m : Nat) : Int)))) (((m : Nat) : Int) + 1))) (by exact E.assign (AF_ev rfl (up rfl tp))) ?_
      refine RW.soft Wd.a (v := .int .i64 (openE (expL (opd m) (1 + (kindF b ((m : Nat) : Int)))) (((m : Nat) : Int) + 1))) (by exact E.assign (AF_ev rfl (up rfl tp))) ?_
      refine RW.fin (fun τ => τ 1 = .int .i64 b ∧ τ 5 = .bool true ∧ τ 6 = .pointer (some ⟨t, 0, none⟩) ∧ τ 7 = .int .i64 ((n : Nat) : Int) ∧ τ 8 = .int .i64 ((i : Nat) : Int) ∧ τ 11 = .int .i64 ((m : Nat) : Int) ∧ τ 12 = .int .i64 (expE (opd m) (1 + (kindF b ((m : Nat) : Int)))) ∧ τ 13 = .int .i64 (openA (expL (opd m) (1 + (kindF b ((m : Nat) : Int)))) (((m : Nat) : Int) + 1)) ∧ τ 14 = .int .i64 (openE (expL (opd m) (1 + (kindF b ((m : Nat) : Int)))) (((m : Nat) : Int) + 1)) ∧ τ 29 = .bool false ∧ τ 63 = .bool false) ⟨up rfl (up rfl (up rfl (up rfl (up rfl (up rfl (up rfl hs1)))))), up rfl (up rfl (up rfl (up rfl (up rfl (up rfl (up rfl hs5)))))), up rfl (up rfl (up rfl (up rfl (up rfl (up rfl (up rfl hs6)))))), up rfl (up rfl (up rfl (up rfl (up rfl (up rfl (up rfl hs7)))))), up rfl (up rfl (up rfl (up rfl (up rfl (up rfl (up rfl hs8)))))), up rfl (up rfl (up rfl (up rfl (up rfl (up rfl (up rfl hs11)))))), up rfl (up rfl (up rfl (up rfl (up rfl (up rfl (up rfl hs12)))))), up rfl tp, tp, up rfl (up rfl (up rfl (up rfl (up rfl (up rfl (up rfl hs29)))))), up rfl (up rfl (up rfl (up rfl (up rfl (up rfl (up rfl hs63))))))⟩ ?_
      rintro τ ⟨hs1, hs5, hs6, hs7, hs8, hs11, hs12, hs13, hs14, hs29, hs63⟩
      refine CW.seq ?_
      refine CW.region ?_
      refine RW.soft Wd.a (v := .pointer (some ⟨t, 0, none⟩)) (by exact E.move (AF_ev rfl hs6)) ?_
      refine RW.hard Wd.a ?_
      refine H.call0 Try.func17 nm17 rfl (map1 (AF_ev rfl tp)) (Calls.mono (Seats_L (by rw [ht5]; omega) (fun x hx => by have := ht6 x hx; unfold I64; omega) hst) ?_)
      rintro _ w ⟨p, v, K, S, hle2, rfl, hPK, hWK, hSs, hSok, hst⟩
      obtain ⟨XS, cS, heS, hcS, hmS, hlS, hbS⟩ := hst.shape
      subst heS
      have hSl : S.length = m := by rw [hSs.len, hPK.length_eq, List.length_map, ht5]
      refine ⟨_, rfl, ?_⟩
      show RW _ _ _ _ _ _ _
      refine RW.soft Wd.a (v := .tuple #[.slice XS S.length cS, .int .i64 (openN (expL (opd m) (1 + (kindF b ((m : Nat) : Int)))) (((m : Nat) : Int) + 1))]) (by exact E.move (AF_ev rfl tp)) ?_
      refine RW.soft Wd.a (v := .slice XS S.length cS) (by exact E.extract (vs := #[.slice XS S.length cS, .int .i64 (openN (expL (opd m) (1 + (kindF b ((m : Nat) : Int)))) (((m : Nat) : Int) + 1))]) (AF_ev rfl tp) rfl) ?_
      refine RW.soft Wd.a (v := .int .i64 (openN (expL (opd m) (1 + (kindF b ((m : Nat) : Int)))) (((m : Nat) : Int) + 1))) (by exact E.extract (vs := #[.slice XS S.length cS, .int .i64 (openN (expL (opd m) (1 + (kindF b ((m : Nat) : Int)))) (((m : Nat) : Int) + 1))]) (AF_ev rfl (up rfl tp)) rfl) ?_
      refine RW.soft Wd.a (v := .slice XS S.length cS) (by exact E.assign (AF_ev rfl (up rfl tp))) ?_
      refine RW.soft Wd.a (v := .int .i64 (openN (expL (opd m) (1 + (kindF b ((m : Nat) : Int)))) (((m : Nat) : Int) + 1))) (by exact E.assign (AF_ev rfl (up rfl tp))) ?_
      refine RW.fin (fun τ => τ 1 = .int .i64 b ∧ τ 5 = .bool true ∧ τ 6 = .pointer (some ⟨t, 0, none⟩) ∧ τ 7 = .int .i64 ((n : Nat) : Int) ∧ τ 8 = .int .i64 ((i : Nat) : Int) ∧ τ 11 = .int .i64 ((m : Nat) : Int) ∧ τ 12 = .int .i64 (expE (opd m) (1 + (kindF b ((m : Nat) : Int)))) ∧ τ 13 = .int .i64 (openA (expL (opd m) (1 + (kindF b ((m : Nat) : Int)))) (((m : Nat) : Int) + 1)) ∧ τ 14 = .int .i64 (openE (expL (opd m) (1 + (kindF b ((m : Nat) : Int)))) (((m : Nat) : Int) + 1)) ∧ τ 15 = .slice XS S.length cS ∧ τ 16 = .int .i64 (openN (expL (opd m) (1 + (kindF b ((m : Nat) : Int)))) (((m : Nat) : Int) + 1)) ∧ τ 29 = .bool false ∧ τ 63 = .bool false) ⟨up rfl (up rfl (up rfl (up rfl (up rfl (up rfl (up rfl hs1)))))), up rfl (up rfl (up rfl (up rfl (up rfl (up rfl (up rfl hs5)))))), up rfl (up rfl (up rfl (up rfl (up rfl (up rfl (up rfl hs6)))))), up rfl (up rfl (up rfl (up rfl (up rfl (up rfl (up rfl hs7)))))), up rfl (up rfl (up rfl (up rfl (up rfl (up rfl (up rfl hs8)))))), up rfl (up rfl (up rfl (up rfl (up rfl (up rfl (up rfl hs11)))))), up rfl (up rfl (up rfl (up rfl (up rfl (up rfl (up rfl hs12)))))), up rfl (up rfl (up rfl (up rfl (up rfl (up rfl (up rfl hs13)))))), up rfl (up rfl (up rfl (up rfl (up rfl (up rfl (up rfl hs14)))))), up rfl tp, tp, up rfl (up rfl (up rfl (up rfl (up rfl (up rfl (up rfl hs29)))))), up rfl (up rfl (up rfl (up rfl (up rfl (up rfl (up rfl hs63))))))⟩ ?_
      rintro τ ⟨hs1, hs5, hs6, hs7, hs8, hs11, hs12, hs13, hs14, hs15, hs16, hs29, hs63⟩
      refine CW.seq ?_
      refine CW.cut (fun τ => τ 1 = .int .i64 b ∧ τ 4 = .bool ((((((expE (opd m) (1 + (kindF b ((m : Nat) : Int)))) == 0) && ((openE (expL (opd m) (1 + (kindF b ((m : Nat) : Int)))) (((m : Nat) : Int) + 1)) == 0)) && ((openA (expL (opd m) (1 + (kindF b ((m : Nat) : Int)))) (((m : Nat) : Int) + 1)) == (((m : Nat) : Int) + 1))) && true) && ((openN (expL (opd m) (1 + (kindF b ((m : Nat) : Int)))) (((m : Nat) : Int) + 1)) == (((m : Nat) : Int) + 2))) ∧ τ 5 = .bool true ∧ τ 6 = .pointer (some ⟨t, 0, none⟩) ∧ τ 7 = .int .i64 ((n : Nat) : Int) ∧ τ 8 = .int .i64 ((i : Nat) : Int) ∧ τ 11 = .int .i64 ((m : Nat) : Int) ∧ τ 12 = .int .i64 (expE (opd m) (1 + (kindF b ((m : Nat) : Int)))) ∧ τ 13 = .int .i64 (openA (expL (opd m) (1 + (kindF b ((m : Nat) : Int)))) (((m : Nat) : Int) + 1)) ∧ τ 14 = .int .i64 (openE (expL (opd m) (1 + (kindF b ((m : Nat) : Int)))) (((m : Nat) : Int) + 1)) ∧ τ 15 = .slice XS S.length cS ∧ τ 16 = .int .i64 (openN (expL (opd m) (1 + (kindF b ((m : Nat) : Int)))) (((m : Nat) : Int) + 1)) ∧ τ 29 = .bool false ∧ τ 63 = .bool false) ?_ ?_
      · refine CW.region ?_
        refine RW.soft Wd.a (v := .int .i64 (expE (opd m) (1 + (kindF b ((m : Nat) : Int))))) (by exact E.move (AF_ev rfl hs12)) ?_
        refine RW.soft Wd.a (v := .bool ((expE (opd m) (1 + (kindF b ((m : Nat) : Int)))) == 0)) (by exact E.eql (k := .i64) (a := expE (opd m) (1 + (kindF b ((m : Nat) : Int)))) (b := 0) (AF_ev rfl tp) rfl) ?_
        refine RW.soft Wd.a (v := .bool ((expE (opd m) (1 + (kindF b ((m : Nat) : Int)))) == 0)) (by exact E.move (AF_ev rfl tp)) ?_
        refine Or.elim (Bool.eq_false_or_eq_true ((expE (opd m) (1 + (kindF b ((m : Nat) : Int)))) == 0)) (fun hg3 => ?_) (fun hg3 => ?_)
        · have hg3_ := hg3
          try simp only [decide_eq_true_eq, decide_eq_false_iff_not, Bool.and_eq_true, Bool.or_eq_true, Bool.and_eq_false_iff, Bool.or_eq_false_iff, Bool.not_eq_true', Bool.not_eq_false', beq_iff_eq, beq_eq_false_iff_ne, bne_iff_ne, bne_eq_false_iff_eq, ne_eq, Int.not_lt, Int.not_le, gt_iff_lt, ge_iff_le] at hg3_
          refine RW.soft (by exact Wd.yes (x := 85) rfl (AF_ev rfl (Eq.trans tp (congrArg Value.bool hg3)))) (v := .int .i64 (openE (expL (opd m) (1 + (kindF b ((m : Nat) : Int)))) (((m : Nat) : Int) + 1))) (by exact E.move (AF_ev rfl (up rfl (up rfl (up rfl hs14))))) ?_
          refine RW.soft (by exact Wd.yes (x := 85) rfl (AF_ev rfl (up rfl (Eq.trans tp (congrArg Value.bool hg3))))) (v := .bool ((openE (expL (opd m) (1 + (kindF b ((m : Nat) : Int)))) (((m : Nat) : Int) + 1)) == 0)) (by exact E.eql (k := .i64) (a := openE (expL (opd m) (1 + (kindF b ((m : Nat) : Int)))) (((m : Nat) : Int) + 1)) (b := 0) (AF_ev rfl tp) rfl) ?_
          refine RW.soft Wd.a (v := .bool ((openE (expL (opd m) (1 + (kindF b ((m : Nat) : Int)))) (((m : Nat) : Int) + 1)) == 0)) (by exact E.pickT (AF_ev rfl (up rfl (up rfl (Eq.trans tp (congrArg Value.bool hg3))))) (AF_ev rfl tp)) ?_
          refine RW.soft Wd.a (v := .bool ((openE (expL (opd m) (1 + (kindF b ((m : Nat) : Int)))) (((m : Nat) : Int) + 1)) == 0)) (by exact E.move (AF_ev rfl tp)) ?_
          refine Or.elim (Bool.eq_false_or_eq_true ((openE (expL (opd m) (1 + (kindF b ((m : Nat) : Int)))) (((m : Nat) : Int) + 1)) == 0)) (fun hg4 => ?_) (fun hg4 => ?_)
          · have hg4_ := hg4
            try simp only [decide_eq_true_eq, decide_eq_false_iff_not, Bool.and_eq_true, Bool.or_eq_true, Bool.and_eq_false_iff, Bool.or_eq_false_iff, Bool.not_eq_true', Bool.not_eq_false', beq_iff_eq, beq_eq_false_iff_ne, bne_iff_ne, bne_eq_false_iff_eq, ne_eq, Int.not_lt, Int.not_le, gt_iff_lt, ge_iff_le] at hg4_
            refine RW.soft (by exact Wd.yes (x := 89) rfl (AF_ev rfl (Eq.trans tp (congrArg Value.bool hg4)))) (v := .int .i64 (openA (expL (opd m) (1 + (kindF b ((m : Nat) : Int)))) (((m : Nat) : Int) + 1))) (by exact E.move (AF_ev rfl (up rfl (up rfl (up rfl (up rfl (up rfl (up rfl (up rfl hs13))))))))) ?_
            refine RW.soft (by exact Wd.yes (x := 89) rfl (AF_ev rfl (up rfl (Eq.trans tp (congrArg Value.bool hg4))))) (v := .int .i64 ((m : Nat) : Int)) (by exact E.move (AF_ev rfl (up rfl (up rfl (up rfl (up rfl (up rfl (up rfl (up rfl (up rfl hs11)))))))))) ?_
            refine RW.soft (by exact Wd.yes (x := 89) rfl (AF_ev rfl (up rfl (up rfl (Eq.trans tp (congrArg Value.bool hg4)))))) (v := .int .i64 (((m : Nat) : Int) + 1)) (by exact E.add (k := .i64) (a := ((m : Nat) : Int)) (b := 1) (AF_ev rfl tp) rfl (show IntKind.i64.wrap (((m : Nat) : Int) + 1) = ((m : Nat) : Int) + 1 from (by rw [IntWalk.i64_in _ (by omega)]))) ?_
            refine RW.soft (by exact Wd.yes (x := 89) rfl (AF_ev rfl (up rfl (up rfl (up rfl (Eq.trans tp (congrArg Value.bool hg4))))))) (v := .bool ((openA (expL (opd m) (1 + (kindF b ((m : Nat) : Int)))) (((m : Nat) : Int) + 1)) == (((m : Nat) : Int) + 1))) (by exact E.eql (k := .i64) (a := openA (expL (opd m) (1 + (kindF b ((m : Nat) : Int)))) (((m : Nat) : Int) + 1)) (b := ((m : Nat) : Int) + 1) (AF_ev rfl (up rfl (up rfl tp))) (AF_ev rfl tp)) ?_
            refine RW.soft Wd.a (v := .bool ((openA (expL (opd m) (1 + (kindF b ((m : Nat) : Int)))) (((m : Nat) : Int) + 1)) == (((m : Nat) : Int) + 1))) (by exact E.pickT (AF_ev rfl (up rfl (up rfl (up rfl (up rfl (Eq.trans tp (congrArg Value.bool hg4))))))) (AF_ev rfl tp)) ?_
            refine RW.soft Wd.a (v := .bool ((openA (expL (opd m) (1 + (kindF b ((m : Nat) : Int)))) (((m : Nat) : Int) + 1)) == (((m : Nat) : Int) + 1))) (by exact E.move (AF_ev rfl tp)) ?_
            refine Or.elim (Bool.eq_false_or_eq_true ((openA (expL (opd m) (1 + (kindF b ((m : Nat) : Int)))) (((m : Nat) : Int) + 1)) == (((m : Nat) : Int) + 1))) (fun hg5 => ?_) (fun hg5 => ?_)
            · have hg5_ := hg5
              try simp only [decide_eq_true_eq, decide_eq_false_iff_not, Bool.and_eq_true, Bool.or_eq_true, Bool.and_eq_false_iff, Bool.or_eq_false_iff, Bool.not_eq_true', Bool.not_eq_false', beq_iff_eq, beq_eq_false_iff_ne, bne_iff_ne, bne_eq_false_iff_eq, ne_eq, Int.not_lt, Int.not_le, gt_iff_lt, ge_iff_le] at hg5_
              refine RW.soft (by exact Wd.yes (x := 95) rfl (AF_ev rfl (Eq.trans tp (congrArg Value.bool hg5)))) (v := .slice XS S.length cS) (by exact E.move (AF_ev rfl (up rfl (up rfl (up rfl (up rfl (up rfl (up rfl (up rfl (up rfl (up rfl (up rfl (up rfl (up rfl (up rfl hs15))))))))))))))) ?_
              refine RW.soft (by exact Wd.yes (x := 95) rfl (AF_ev rfl (up rfl (Eq.trans tp (congrArg Value.bool hg5))))) (v := .int .i64 ((S.length : Nat) : Int)) (by exact E.lenS (p := XS) (l := S.length) (c := cS) Try.underlying30 (AF_ev rfl tp)) ?_
              refine RW.soft (by exact Wd.yes (x := 95) rfl (AF_ev rfl (up rfl (up rfl (Eq.trans tp (congrArg Value.bool hg5)))))) (v := .int .i64 ((m : Nat) : Int)) (by exact E.move (AF_ev rfl (up rfl (up rfl (up rfl (up rfl (up rfl (up rfl (up rfl (up rfl (up rfl (up rfl (up rfl (up rfl (up rfl (up rfl (up rfl hs11))))))))))))))))) ?_
              refine RW.soft (by exact Wd.yes (x := 95) rfl (AF_ev rfl (up rfl (up rfl (up rfl (Eq.trans tp (congrArg Value.bool hg5))))))) (v := .bool true) (by exact E.b (a := ((S.length : Nat) : Int) == ((m : Nat) : Int)) (E.eql (k := .i64) (a := ((S.length : Nat) : Int)) (b := ((m : Nat) : Int)) (AF_ev rfl (up rfl tp)) (AF_ev rfl tp)) (by rw [hSl]; simp)) ?_
              refine RW.soft Wd.a (v := .bool true) (by exact E.pickT (AF_ev rfl (up rfl (up rfl (up rfl (up rfl (Eq.trans tp (congrArg Value.bool hg5))))))) (AF_ev rfl tp)) ?_
              refine RW.soft Wd.a (v := .bool true) (by exact E.move (AF_ev rfl tp)) ?_
              refine RW.soft (by exact Wd.yes (x := 101) rfl (AF_ev rfl tp)) (v := .int .i64 (openN (expL (opd m) (1 + (kindF b ((m : Nat) : Int)))) (((m : Nat) : Int) + 1))) (by exact E.move (AF_ev rfl (up rfl (up rfl (up rfl (up rfl (up rfl (up rfl (up rfl (up rfl (up rfl (up rfl (up rfl (up rfl (up rfl (up rfl (up rfl (up rfl (up rfl (up rfl (up rfl hs16))))))))))))))))))))) ?_
              refine RW.soft (by exact Wd.yes (x := 101) rfl (AF_ev rfl (up rfl tp))) (v := .int .i64 ((m : Nat) : Int)) (by exact E.move (AF_ev rfl (up rfl (up rfl (up rfl (up rfl (up rfl (up rfl (up rfl (up rfl (up rfl (up rfl (up rfl (up rfl (up rfl (up rfl (up rfl (up rfl (up rfl (up rfl (up rfl (up rfl hs11)))))))))))))))))))))) ?_
              refine RW.soft (by exact Wd.yes (x := 101) rfl (AF_ev rfl (up rfl (up rfl tp)))) (v := .int .i64 (((m : Nat) : Int) + 2)) (by exact E.add (k := .i64) (a := ((m : Nat) : Int)) (b := 2) (AF_ev rfl tp) rfl (show IntKind.i64.wrap (((m : Nat) : Int) + 2) = ((m : Nat) : Int) + 2 from (by rw [IntWalk.i64_in _ (by omega)]))) ?_
              refine RW.soft (by exact Wd.yes (x := 101) rfl (AF_ev rfl (up rfl (up rfl (up rfl tp))))) (v := .bool ((openN (expL (opd m) (1 + (kindF b ((m : Nat) : Int)))) (((m : Nat) : Int) + 1)) == (((m : Nat) : Int) + 2))) (by exact E.eql (k := .i64) (a := openN (expL (opd m) (1 + (kindF b ((m : Nat) : Int)))) (((m : Nat) : Int) + 1)) (b := ((m : Nat) : Int) + 2) (AF_ev rfl (up rfl (up rfl tp))) (AF_ev rfl tp)) ?_
              refine RW.soft Wd.a (v := .bool ((openN (expL (opd m) (1 + (kindF b ((m : Nat) : Int)))) (((m : Nat) : Int) + 1)) == (((m : Nat) : Int) + 2))) (by exact E.pickT (AF_ev rfl (up rfl (up rfl (up rfl (up rfl tp))))) (AF_ev rfl tp)) ?_
              refine RW.soft Wd.a (v := .bool ((openN (expL (opd m) (1 + (kindF b ((m : Nat) : Int)))) (((m : Nat) : Int) + 1)) == (((m : Nat) : Int) + 2))) (by exact E.assign (AF_ev rfl tp)) ?_
              refine RW.nil ⟨rfl, rfl, up rfl (up rfl (up rfl (up rfl (up rfl (up rfl (up rfl (up rfl (up rfl (up rfl (up rfl (up rfl (up rfl (up rfl (up rfl (up rfl (up rfl (up rfl (up rfl (up rfl (up rfl (up rfl (up rfl (up rfl (up rfl hs1)))))))))))))))))))))))), (bool_eq (a := (openN (expL (opd m) (1 + (kindF b ((m : Nat) : Int)))) (((m : Nat) : Int) + 1)) == (((m : Nat) : Int) + 2)) tp (by simp only [hg3, hg4, hg5, Bool.true_and, Bool.false_and, Bool.true_or, Bool.false_or])), up rfl (up rfl (up rfl (up rfl (up rfl (up rfl (up rfl (up rfl (up rfl (up rfl (up rfl (up rfl (up rfl (up rfl (up rfl (up rfl (up rfl (up rfl (up rfl (up rfl (up rfl (up rfl (up rfl (up rfl (up rfl hs5)))))))))))))))))))))))), up rfl (up rfl (up rfl (up rfl (up rfl (up rfl (up rfl (up rfl (up rfl (up rfl (up rfl (up rfl (up rfl (up rfl (up rfl (up rfl (up rfl (up rfl (up rfl (up rfl (up rfl (up rfl (up rfl (up rfl (up rfl hs6)))))))))))))))))))))))), up rfl (up rfl (up rfl (up rfl (up rfl (up rfl (up rfl (up rfl (up rfl (up rfl (up rfl (up rfl (up rfl (up rfl (up rfl (up rfl (up rfl (up rfl (up rfl (up rfl (up rfl (up rfl (up rfl (up rfl (up rfl hs7)))))))))))))))))))))))), up rfl (up rfl (up rfl (up rfl (up rfl (up rfl (up rfl (up rfl (up rfl (up rfl (up rfl (up rfl (up rfl (up rfl (up rfl (up rfl (up rfl (up rfl (up rfl (up rfl (up rfl (up rfl (up rfl (up rfl (up rfl hs8)))))))))))))))))))))))), up rfl (up rfl (up rfl (up rfl (up rfl (up rfl (up rfl (up rfl (up rfl (up rfl (up rfl (up rfl (up rfl (up rfl (up rfl (up rfl (up rfl (up rfl (up rfl (up rfl (up rfl (up rfl (up rfl (up rfl (up rfl hs11)))))))))))))))))))))))), up rfl (up rfl (up rfl (up rfl (up rfl (up rfl (up rfl (up rfl (up rfl (up rfl (up rfl (up rfl (up rfl (up rfl (up rfl (up rfl (up rfl (up rfl (up rfl (up rfl (up rfl (up rfl (up rfl (up rfl (up rfl hs12)))))))))))))))))))))))), up rfl (up rfl (up rfl (up rfl (up rfl (up rfl (up rfl (up rfl (up rfl (up rfl (up rfl (up rfl (up rfl (up rfl (up rfl (up rfl (up rfl (up rfl (up rfl (up rfl (up rfl (up rfl (up rfl (up rfl (up rfl hs13)))))))))))))))))))))))), up rfl (up rfl (up rfl (up rfl (up rfl (up rfl (up rfl (up rfl (up rfl (up rfl (up rfl (up rfl (up rfl (up rfl (up rfl (up rfl (up rfl (up rfl (up rfl (up rfl (up rfl (up rfl (up rfl (up rfl (up rfl hs14)))))))))))))))))))))))), up rfl (up rfl (up rfl (up rfl (up rfl (up rfl (up rfl (up rfl (up rfl (up rfl (up rfl (up rfl (up rfl (up rfl (up rfl (up rfl (up rfl (up rfl (up rfl (up rfl (up rfl (up rfl (up rfl (up rfl (up rfl hs15)))))))))))))))))))))))), up rfl (up rfl (up rfl (up rfl (up rfl (up rfl (up rfl (up rfl (up rfl (up rfl (up rfl (up rfl (up rfl (up rfl (up rfl (up rfl (up rfl (up rfl (up rfl (up rfl (up rfl (up rfl (up rfl (up rfl (up rfl hs16)))))))))))))))))))))))), up rfl (up rfl (up rfl (up rfl (up rfl (up rfl (up rfl (up rfl (up rfl (up rfl (up rfl (up rfl (up rfl (up rfl (up rfl (up rfl (up rfl (up rfl (up rfl (up rfl (up rfl (up rfl (up rfl (up rfl (up rfl hs29)))))))))))))))))))))))), up rfl (up rfl (up rfl (up rfl (up rfl (up rfl (up rfl (up rfl (up rfl (up rfl (up rfl (up rfl (up rfl (up rfl (up rfl (up rfl (up rfl (up rfl (up rfl (up rfl (up rfl (up rfl (up rfl (up rfl (up rfl hs63))))))))))))))))))))))))⟩
            · have hg5_ := hg5
              try simp only [decide_eq_true_eq, decide_eq_false_iff_not, Bool.and_eq_true, Bool.or_eq_true, Bool.and_eq_false_iff, Bool.or_eq_false_iff, Bool.not_eq_true', Bool.not_eq_false', beq_iff_eq, beq_eq_false_iff_ne, bne_iff_ne, bne_eq_false_iff_eq, ne_eq, Int.not_lt, Int.not_le, gt_iff_lt, ge_iff_le] at hg5_
              refine RW.pass (by exact Wd.no (x := 95) (b := false) rfl (AF_ev rfl (Eq.trans tp (congrArg Value.bool hg5))) rfl) ?_
              refine RW.pass (by exact Wd.no (x := 95) (b := false) rfl (AF_ev rfl (up rfl (Eq.trans tp (congrArg Value.bool hg5)))) rfl) ?_
              refine RW.pass (by exact Wd.no (x := 95) (b := false) rfl (AF_ev rfl (up rfl (up rfl (Eq.trans tp (congrArg Value.bool hg5))))) rfl) ?_
              refine RW.pass (by exact Wd.no (x := 95) (b := false) rfl (AF_ev rfl (up rfl (up rfl (up rfl (Eq.trans tp (congrArg Value.bool hg5)))))) rfl) ?_
              refine RW.soft Wd.a (v := .bool false) (by exact E.pickF (AF_ev rfl (up rfl (up rfl (up rfl (up rfl (Eq.trans tp (congrArg Value.bool hg5))))))) rfl) ?_
              refine RW.soft Wd.a (v := .bool false) (by exact E.move (AF_ev rfl tp)) ?_
              refine RW.pass (by exact Wd.no (x := 101) (b := false) rfl (AF_ev rfl tp) rfl) ?_
              refine RW.pass (by exact Wd.no (x := 101) (b := false) rfl (AF_ev rfl (up rfl tp)) rfl) ?_
              refine RW.pass (by exact Wd.no (x := 101) (b := false) rfl (AF_ev rfl (up rfl (up rfl tp))) rfl) ?_
              refine RW.pass (by exact Wd.no (x := 101) (b := false) rfl (AF_ev rfl (up rfl (up rfl (up rfl tp)))) rfl) ?_
              refine RW.soft Wd.a (v := .bool false) (by exact E.pickF (AF_ev rfl (up rfl (up rfl (up rfl (up rfl tp))))) rfl) ?_
              refine RW.soft Wd.a (v := .bool false) (by exact E.assign (AF_ev rfl tp)) ?_
              refine RW.nil ⟨rfl, rfl, up rfl (up rfl (up rfl (up rfl (up rfl (up rfl (up rfl (up rfl (up rfl (up rfl (up rfl (up rfl (up rfl (up rfl (up rfl (up rfl (up rfl (up rfl (up rfl (up rfl (up rfl (up rfl (up rfl (up rfl (up rfl hs1)))))))))))))))))))))))), (bool_eq (a := false) tp (by simp only [hg3, hg4, hg5, Bool.true_and, Bool.false_and, Bool.true_or, Bool.false_or])), up rfl (up rfl (up rfl (up rfl (up rfl (up rfl (up rfl (up rfl (up rfl (up rfl (up rfl (up rfl (up rfl (up rfl (up rfl (up rfl (up rfl (up rfl (up rfl (up rfl (up rfl (up rfl (up rfl (up rfl (up rfl hs5)))))))))))))))))))))))), up rfl (up rfl (up rfl (up rfl (up rfl (up rfl (up rfl (up rfl (up rfl (up rfl (up rfl (up rfl (up rfl (up rfl (up rfl (up rfl (up rfl (up rfl (up rfl (up rfl (up rfl (up rfl (up rfl (up rfl (up rfl hs6)))))))))))))))))))))))), up rfl (up rfl (up rfl (up rfl (up rfl (up rfl (up rfl (up rfl (up rfl (up rfl (up rfl (up rfl (up rfl (up rfl (up rfl (up rfl (up rfl (up rfl (up rfl (up rfl (up rfl (up rfl (up rfl (up rfl (up rfl hs7)))))))))))))))))))))))), up rfl (up rfl (up rfl (up rfl (up rfl (up rfl (up rfl (up rfl (up rfl (up rfl (up rfl (up rfl (up rfl (up rfl (up rfl (up rfl (up rfl (up rfl (up rfl (up rfl (up rfl (up rfl (up rfl (up rfl (up rfl hs8)))))))))))))))))))))))), up rfl (up rfl (up rfl (up rfl (up rfl (up rfl (up rfl (up rfl (up rfl (up rfl (up rfl (up rfl (up rfl (up rfl (up rfl (up rfl (up rfl (up rfl (up rfl (up rfl (up rfl (up rfl (up rfl (up rfl (up rfl hs11)))))))))))))))))))))))), up rfl (up rfl (up rfl (up rfl (up rfl (up rfl (up rfl (up rfl (up rfl (up rfl (up rfl (up rfl (up rfl (up rfl (up rfl (up rfl (up rfl (up rfl (up rfl (up rfl (up rfl (up rfl (up rfl (up rfl (up rfl hs12)))))))))))))))))))))))), up rfl (up rfl (up rfl (up rfl (up rfl (up rfl (up rfl (up rfl (up rfl (up rfl (up rfl (up rfl (up rfl (up rfl (up rfl (up rfl (up rfl (up rfl (up rfl (up rfl (up rfl (up rfl (up rfl (up rfl (up rfl hs13)))))))))))))))))))))))), up rfl (up rfl (up rfl (up rfl (up rfl (up rfl (up rfl (up rfl (up rfl (up rfl (up rfl (up rfl (up rfl (up rfl (up rfl (up rfl (up rfl (up rfl (up rfl (up rfl (up rfl (up rfl (up rfl (up rfl (up rfl hs14)))))))))))))))))))))))), up rfl (up rfl (up rfl (up rfl (up rfl (up rfl (up rfl (up rfl (up rfl (up rfl (up rfl (up rfl (up rfl (up rfl (up rfl (up rfl (up rfl (up rfl (up rfl (up rfl (up rfl (up rfl (up rfl (up rfl (up rfl hs15)))))))))))))))))))))))), up rfl (up rfl (up rfl (up rfl (up rfl (up rfl (up rfl (up rfl (up rfl (up rfl (up rfl (up rfl (up rfl (up rfl (up rfl (up rfl (up rfl (up rfl (up rfl (up rfl (up rfl (up rfl (up rfl (up rfl (up rfl hs16)))))))))))))))))))))))), up rfl (up rfl (up rfl (up rfl (up rfl (up rfl (up rfl (up rfl (up rfl (up rfl (up rfl (up rfl (up rfl (up rfl (up rfl (up rfl (up rfl (up rfl (up rfl (up rfl (up rfl (up rfl (up rfl (up rfl (up rfl hs29)))))))))))))))))))))))), up rfl (up rfl (up rfl (up rfl (up rfl (up rfl (up rfl (up rfl (up rfl (up rfl (up rfl (up rfl (up rfl (up rfl (up rfl (up rfl (up rfl (up rfl (up rfl (up rfl (up rfl (up rfl (up rfl (up rfl (up rfl hs63))))))))))))))))))))))))⟩
          · have hg4_ := hg4
            try simp only [decide_eq_true_eq, decide_eq_false_iff_not, Bool.and_eq_true, Bool.or_eq_true, Bool.and_eq_false_iff, Bool.or_eq_false_iff, Bool.not_eq_true', Bool.not_eq_false', beq_iff_eq, beq_eq_false_iff_ne, bne_iff_ne, bne_eq_false_iff_eq, ne_eq, Int.not_lt, Int.not_le, gt_iff_lt, ge_iff_le] at hg4_
            refine RW.pass (by exact Wd.no (x := 89) (b := false) rfl (AF_ev rfl (Eq.trans tp (congrArg Value.bool hg4))) rfl) ?_
            refine RW.pass (by exact Wd.no (x := 89) (b := false) rfl (AF_ev rfl (up rfl (Eq.trans tp (congrArg Value.bool hg4)))) rfl) ?_
            refine RW.pass (by exact Wd.no (x := 89) (b := false) rfl (AF_ev rfl (up rfl (up rfl (Eq.trans tp (congrArg Value.bool hg4))))) rfl) ?_
            refine RW.pass (by exact Wd.no (x := 89) (b := false) rfl (AF_ev rfl (up rfl (up rfl (up rfl (Eq.trans tp (congrArg Value.bool hg4)))))) rfl) ?_
            refine RW.soft Wd.a (v := .bool false) (by exact E.pickF (AF_ev rfl (up rfl (up rfl (up rfl (up rfl (Eq.trans tp (congrArg Value.bool hg4))))))) rfl) ?_
            refine RW.soft Wd.a (v := .bool false) (by exact E.move (AF_ev rfl tp)) ?_
            refine RW.pass (by exact Wd.no (x := 95) (b := false) rfl (AF_ev rfl tp) rfl) ?_
            refine RW.pass (by exact Wd.no (x := 95) (b := false) rfl (AF_ev rfl (up rfl tp)) rfl) ?_
            refine RW.pass (by exact Wd.no (x := 95) (b := false) rfl (AF_ev rfl (up rfl (up rfl tp))) rfl) ?_
            refine RW.pass (by exact Wd.no (x := 95) (b := false) rfl (AF_ev rfl (up rfl (up rfl (up rfl tp)))) rfl) ?_
            refine RW.soft Wd.a (v := .bool false) (by exact E.pickF (AF_ev rfl (up rfl (up rfl (up rfl (up rfl tp))))) rfl) ?_
            refine RW.soft Wd.a (v := .bool false) (by exact E.move (AF_ev rfl tp)) ?_
            refine RW.pass (by exact Wd.no (x := 101) (b := false) rfl (AF_ev rfl tp) rfl) ?_
            refine RW.pass (by exact Wd.no (x := 101) (b := false) rfl (AF_ev rfl (up rfl tp)) rfl) ?_
            refine RW.pass (by exact Wd.no (x := 101) (b := false) rfl (AF_ev rfl (up rfl (up rfl tp))) rfl) ?_
            refine RW.pass (by exact Wd.no (x := 101) (b := false) rfl (AF_ev rfl (up rfl (up rfl (up rfl tp)))) rfl) ?_
            refine RW.soft Wd.a (v := .bool false) (by exact E.pickF (AF_ev rfl (up rfl (up rfl (up rfl (up rfl tp))))) rfl) ?_
            refine RW.soft Wd.a (v := .bool false) (by exact E.assign (AF_ev rfl tp)) ?_
            refine RW.nil ⟨rfl, rfl, up rfl (up rfl (up rfl (up rfl (up rfl (up rfl (up rfl (up rfl (up rfl (up rfl (up rfl (up rfl (up rfl (up rfl (up rfl (up rfl (up rfl (up rfl (up rfl (up rfl (up rfl (up rfl (up rfl (up rfl (up rfl hs1)))))))))))))))))))))))), (bool_eq (a := false) tp (by simp only [hg3, hg4, Bool.true_and, Bool.false_and, Bool.true_or, Bool.false_or])), up rfl (up rfl (up rfl (up rfl (up rfl (up rfl (up rfl (up rfl (up rfl (up rfl (up rfl (up rfl (up rfl (up rfl (up rfl (up rfl (up rfl (up rfl (up rfl (up rfl (up rfl (up rfl (up rfl (up rfl (up rfl hs5)))))))))))))))))))))))), up rfl (up rfl (up rfl (up rfl (up rfl (up rfl (up rfl (up rfl (up rfl (up rfl (up rfl (up rfl (up rfl (up rfl (up rfl (up rfl (up rfl (up rfl (up rfl (up rfl (up rfl (up rfl (up rfl (up rfl (up rfl hs6)))))))))))))))))))))))), up rfl (up rfl (up rfl (up rfl (up rfl (up rfl (up rfl (up rfl (up rfl (up rfl (up rfl (up rfl (up rfl (up rfl (up rfl (up rfl (up rfl (up rfl (up rfl (up rfl (up rfl (up rfl (up rfl (up rfl (up rfl hs7)))))))))))))))))))))))), up rfl (up rfl (up rfl (up rfl (up rfl (up rfl (up rfl (up rfl (up rfl (up rfl (up rfl (up rfl (up rfl (up rfl (up rfl (up rfl (up rfl (up rfl (up rfl (up rfl (up rfl (up rfl (up rfl (up rfl (up rfl hs8)))))))))))))))))))))))), up rfl (up rfl (up rfl (up rfl (up rfl (up rfl (up rfl (up rfl (up rfl (up rfl (up rfl (up rfl (up rfl (up rfl (up rfl (up rfl (up rfl (up rfl (up rfl (up rfl (up rfl (up rfl (up rfl (up rfl (up rfl hs11)))))))))))))))))))))))), up rfl (up rfl (up rfl (up rfl (up rfl (up rfl (up rfl (up rfl (up rfl (up rfl (up rfl (up rfl (up rfl (up rfl (up rfl (up rfl (up rfl (up rfl (up rfl (up rfl (up rfl (up rfl (up rfl (up rfl (up rfl hs12)))))))))))))))))))))))), up rfl (up rfl (up rfl (up rfl (up rfl (up rfl (up rfl (up rfl (up rfl (up rfl (up rfl (up rfl (up rfl (up rfl (up rfl (up rfl (up rfl (up rfl (up rfl (up rfl (up rfl (up rfl (up rfl (up rfl (up rfl hs13)))))))))))))))))))))))), up rfl (up rfl (up rfl (up rfl (up rfl (up rfl (up rfl (up rfl (up rfl (up rfl (up rfl (up rfl (up rfl (up rfl (up rfl (up rfl (up rfl (up rfl (up rfl (up rfl (up rfl (up rfl (up rfl (up rfl (up rfl hs14)))))))))))))))))))))))), up rfl (up rfl (up rfl (up rfl (up rfl (up rfl (up rfl (up rfl (up rfl (up rfl (up rfl (up rfl (up rfl (up rfl (up rfl (up rfl (up rfl (up rfl (up rfl (up rfl (up rfl (up rfl (up rfl (up rfl (up rfl hs15)))))))))))))))))))))))), up rfl (up rfl (up rfl (up rfl (up rfl (up rfl (up rfl (up rfl (up rfl (up rfl (up rfl (up rfl (up rfl (up rfl (up rfl (up rfl (up rfl (up rfl (up rfl (up rfl (up rfl (up rfl (up rfl (up rfl (up rfl hs16)))))))))))))))))))))))), up rfl (up rfl (up rfl (up rfl (up rfl (up rfl (up rfl (up rfl (up rfl (up rfl (up rfl (up rfl (up rfl (up rfl (up rfl (up rfl (up rfl (up rfl (up rfl (up rfl (up rfl (up rfl (up rfl (up rfl (up rfl hs29)))))))))))))))))))))))), up rfl (up rfl (up rfl (up rfl (up rfl (up rfl (up rfl (up rfl (up rfl (up rfl (up rfl (up rfl (up rfl (up rfl (up rfl (up rfl (up rfl (up rfl (up rfl (up rfl (up rfl (up rfl (up rfl (up rfl (up rfl hs63))))))))))))))))))))))))⟩
        · have hg3_ := hg3
          try simp only [decide_eq_true_eq, decide_eq_false_iff_not, Bool.and_eq_true, Bool.or_eq_true, Bool.and_eq_false_iff, Bool.or_eq_false_iff, Bool.not_eq_true', Bool.not_eq_false', beq_iff_eq, beq_eq_false_iff_ne, bne_iff_ne, bne_eq_false_iff_eq, ne_eq, Int.not_lt, Int.not_le, gt_iff_lt, ge_iff_le] at hg3_
          refine RW.pass (by exact Wd.no (x := 85) (b := false) rfl (AF_ev rfl (Eq.trans tp (congrArg Value.bool hg3))) rfl) ?_
          refine RW.pass (by exact Wd.no (x := 85) (b := false) rfl (AF_ev rfl (up rfl (Eq.trans tp (congrArg Value.bool hg3)))) rfl) ?_
          refine RW.soft Wd.a (v := .bool false) (by exact E.pickF (AF_ev rfl (up rfl (up rfl (Eq.trans tp (congrArg Value.bool hg3))))) rfl) ?_
          refine RW.soft Wd.a (v := .bool false) (by exact E.move (AF_ev rfl tp)) ?_
          refine RW.pass (by exact Wd.no (x := 89) (b := false) rfl (AF_ev rfl tp) rfl) ?_
          refine RW.pass (by exact Wd.no (x := 89) (b := false) rfl (AF_ev rfl (up rfl tp)) rfl) ?_
          refine RW.pass (by exact Wd.no (x := 89) (b := false) rfl (AF_ev rfl (up rfl (up rfl tp))) rfl) ?_
          refine RW.pass (by exact Wd.no (x := 89) (b := false) rfl (AF_ev rfl (up rfl (up rfl (up rfl tp)))) rfl) ?_
          refine RW.soft Wd.a (v := .bool false) (by exact E.pickF (AF_ev rfl (up rfl (up rfl (up rfl (up rfl tp))))) rfl) ?_
          refine RW.soft Wd.a (v := .bool false) (by exact E.move (AF_ev rfl tp)) ?_
          refine RW.pass (by exact Wd.no (x := 95) (b := false) rfl (AF_ev rfl tp) rfl) ?_
          refine RW.pass (by exact Wd.no (x := 95) (b := false) rfl (AF_ev rfl (up rfl tp)) rfl) ?_
          refine RW.pass (by exact Wd.no (x := 95) (b := false) rfl (AF_ev rfl (up rfl (up rfl tp))) rfl) ?_
          refine RW.pass (by exact Wd.no (x := 95) (b := false) rfl (AF_ev rfl (up rfl (up rfl (up rfl tp)))) rfl) ?_
          refine RW.soft Wd.a (v := .bool false) (by exact E.pickF (AF_ev rfl (up rfl (up rfl (up rfl (up rfl tp))))) rfl) ?_
          refine RW.soft Wd.a (v := .bool false) (by exact E.move (AF_ev rfl tp)) ?_
          refine RW.pass (by exact Wd.no (x := 101) (b := false) rfl (AF_ev rfl tp) rfl) ?_
          refine RW.pass (by exact Wd.no (x := 101) (b := false) rfl (AF_ev rfl (up rfl tp)) rfl) ?_
          refine RW.pass (by exact Wd.no (x := 101) (b := false) rfl (AF_ev rfl (up rfl (up rfl tp))) rfl) ?_
          refine RW.pass (by exact Wd.no (x := 101) (b := false) rfl (AF_ev rfl (up rfl (up rfl (up rfl tp)))) rfl) ?_
          refine RW.soft Wd.a (v := .bool false) (by exact E.pickF (AF_ev rfl (up rfl (up rfl (up rfl (up rfl tp))))) rfl) ?_
          refine RW.soft Wd.a (v := .bool false) (by exact E.assign (AF_ev rfl tp)) ?_
          refine RW.nil ⟨rfl, rfl, up rfl (up rfl (up rfl (up rfl (up rfl (up rfl (up rfl (up rfl (up rfl (up rfl (up rfl (up rfl (up rfl (up rfl (up rfl (up rfl (up rfl (up rfl (up rfl (up rfl (up rfl (up rfl (up rfl (up rfl (up rfl hs1)))))))))))))))))))))))), (bool_eq (a := false) tp (by simp only [hg3, Bool.true_and, Bool.false_and, Bool.true_or, Bool.false_or])), up rfl (up rfl (up rfl (up rfl (up rfl (up rfl (up rfl (up rfl (up rfl (up rfl (up rfl (up rfl (up rfl (up rfl (up rfl (up rfl (up rfl (up rfl (up rfl (up rfl (up rfl (up rfl (up rfl (up rfl (up rfl hs5)))))))))))))))))))))))), up rfl (up rfl (up rfl (up rfl (up rfl (up rfl (up rfl (up rfl (up rfl (up rfl (up rfl (up rfl (up rfl (up rfl (up rfl (up rfl (up rfl (up rfl (up rfl (up rfl (up rfl (up rfl (up rfl (up rfl (up rfl hs6)))))))))))))))))))))))), up rfl (up rfl (up rfl (up rfl (up rfl (up rfl (up rfl (up rfl (up rfl (up rfl (up rfl (up rfl (up rfl (up rfl (up rfl (up rfl (up rfl (up rfl (up rfl (up rfl (up rfl (up rfl (up rfl (up rfl (up rfl hs7)))))))))))))))))))))))), up rfl (up rfl (up rfl (up rfl (up rfl (up rfl (up rfl (up rfl (up rfl (up rfl (up rfl (up rfl (up rfl (up rfl (up rfl (up rfl (up rfl (up rfl (up rfl (up rfl (up rfl (up rfl (up rfl (up rfl (up rfl hs8)))))))))))))))))))))))), up rfl (up rfl (up rfl (up rfl (up rfl (up rfl (up rfl (up rfl (up rfl (up rfl (up rfl (up rfl (up rfl (up rfl (up rfl (up rfl (up rfl (up rfl (up rfl (up rfl (up rfl (up rfl (up rfl (up rfl (up rfl hs11)))))))))))))))))))))))), up rfl (up rfl (up rfl (up rfl (up rfl (up rfl (up rfl (up rfl (up rfl (up rfl (up rfl (up rfl (up rfl (up rfl (up rfl (up rfl (up rfl (up rfl (up rfl (up rfl (up rfl (up rfl (up rfl (up rfl (up rfl hs12)))))))))))))))))))))))), up rfl (up rfl (up rfl (up rfl (up rfl (up rfl (up rfl (up rfl (up rfl (up rfl (up rfl (up rfl (up rfl (up rfl (up rfl (up rfl (up rfl (up rfl (up rfl (up rfl (up rfl (up rfl (up rfl (up rfl (up rfl hs13)))))))))))))))))))))))), up rfl (up rfl (up rfl (up rfl (up rfl (up rfl (up rfl (up rfl (up rfl (up rfl (up rfl (up rfl (up rfl (up rfl (up rfl (up rfl (up rfl (up rfl (up rfl (up rfl (up rfl (up rfl (up rfl (up rfl (up rfl hs14)))))))))))))))))))))))), up rfl (up rfl (up rfl (up rfl (up rfl (up rfl (up rfl (up rfl (up rfl (up rfl (up rfl (up rfl (up rfl (up rfl (up rfl (up rfl (up rfl (up rfl (up rfl (up rfl (up rfl (up rfl (up rfl (up rfl (up rfl hs15)))))))))))))))))))))))), up rfl (up rfl (up rfl (up rfl (up rfl (up rfl (up rfl (up rfl (up rfl (up rfl (up rfl (up rfl (up rfl (up rfl (up rfl (up rfl (up rfl (up rfl (up rfl (up rfl (up rfl (up rfl (up rfl (up rfl (up rfl hs16)))))))))))))))))))))))), up rfl (up rfl (up rfl (up rfl (up rfl (up rfl (up rfl (up rfl (up rfl (up rfl (up rfl (up rfl (up rfl (up rfl (up rfl (up rfl (up rfl (up rfl (up rfl (up rfl (up rfl (up rfl (up rfl (up rfl (up rfl hs29)))))))))))))))))))))))), up rfl (up rfl (up rfl (up rfl (up rfl (up rfl (up rfl (up rfl (up rfl (up rfl (up rfl (up rfl (up rfl (up rfl (up rfl (up rfl (up rfl (up rfl (up rfl (up rfl (up rfl (up rfl (up rfl (up rfl (up rfl hs63))))))))))))))))))))))))⟩
      rintro τ ⟨hs1, hs4, hs5, hs6, hs7, hs8, hs11, hs12, hs13, hs14, hs15, hs16, hs29, hs63⟩
      refine CW.ret ?_
      refine ret1 (v := .bool ((((((expE (opd m) (1 + (kindF b ((m : Nat) : Int)))) == 0) && ((openE (expL (opd m) (1 + (kindF b ((m : Nat) : Int)))) (((m : Nat) : Int) + 1)) == 0)) && ((openA (expL (opd m) (1 + (kindF b ((m : Nat) : Int)))) (((m : Nat) : Int) + 1)) == (((m : Nat) : Int) + 1))) && true) && ((openN (expL (opd m) (1 + (kindF b ((m : Nat) : Int)))) (((m : Nat) : Int) + 1)) == (((m : Nat) : Int) + 2)))) rfl (by exact (.tmp (AF_ev rfl hs4) .nil)) ?_
      have hst := (hst.take .here).drop
      have hst := (hst.take .here).drop
      have hfin : ((((((expE (opd m) (1 + (kindF b ((m : Nat) : Int)))) == 0) && ((openE (expL (opd m) (1 + (kindF b ((m : Nat) : Int)))) (((m : Nat) : Int) + 1)) == 0)) && ((openA (expL (opd m) (1 + (kindF b ((m : Nat) : Int)))) (((m : Nat) : Int) + 1)) == (((m : Nat) : Int) + 1))) && true) && ((openN (expL (opd m) (1 + (kindF b ((m : Nat) : Int)))) (((m : Nat) : Int) + 1)) == (((m : Nat) : Int) + 2))) = true := by
        rw [ht1, ht2, ht3, ht4]
        first | (simp; done) | (simp; omega)
      rw [hfin]
      exact ⟨_, hle.trans hle2, rfl, hst⟩
end Go.Proofs.Ytjagffnbobnofaa
