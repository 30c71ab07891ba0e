/- The calls of the package entries, walked through operation by operation. -/
import Derived.Test.YtdlcjoonhojpfaaE0
import Derived.Test.YtdlcjoonhojpfaaT1
import Derived.Test.YtdlcjoonhojpfaaE1
import Derived.Test.YtdlcjoonhojpfaaE2
import Derived.Test.YtdlcjoonhojpfaaE3
import Derived.Test.YtdlcjoonhojpfaaE4
import Derived.Test.YtdlcjoonhojpfaaE5
import Derived.Test.YtdlcjoonhojpfaaE6
import Derived.Test.YtdlcjoonhojpfaaE9
import Derived.Test.YtdlcjoonhojpfaaE10
import Derived.Test.YtdlcjoonhojpfaaE11
import Derived.Test.YtdlcjoonhojpfaaE14
import Derived.Test.YtdlcjoonhojpfaaE15
import Derived.Test.YtdlcjoonhojpfaaE16
import Derived.Test.YtdlcjoonhojpfaaE22
import Derived.Test.YtdlcjoonhojpfaaE23
import Derived.Test.YtdlcjoonhojpfaaE24
namespace Go.Proofs.Ytdlcjoonhojpfaa
open Go.RowKit Go.SL Go.E17
attribute [local irreducible] Go.SL.RW Go.SL.CW Go.SL.RD Go.SL.Hd Go.SL.St
set_option linter.unusedVariables false
set_option linter.unusedSimpArgs false



theorem ref_Rebase_yes {p : Pers} {w : World} {R : List Assn} {b : Nat} {i t : Int} {es : List Ent} (k u : Int) (hk : i ≤ k ∧ k ≤ 1099511627776) (hst : St p w (RefB p b i t es :: R)) :
    Calls Try.prog 82 #[.pointer (some ⟨b, 0, none⟩), .int .i64 k, .int .i64 u] w fun e w => e = .returned (.int .i64 0) ∧ St p w (RefB p b k u (if keepB i t (ts es) k u = true then es.drop (k - i).toNat else []) :: R) := by
  obtain ⟨X, c, hi, hn, hE, hcc, hX, hst⟩ := refOpen hst
  refine enter Try.func82 rfl (by simp) (n := 67) rfl fun τ hτ => ?_
  have hs0 : τ 0 = .pointer (some ⟨b, 0, none⟩) := hτ 0 (by simp)
  have hs1 : τ 1 = .int .i64 k := hτ 1 (by simp)
  have hs2 : τ 2 = .int .i64 u := hτ 2 (by simp)
  clear hτ
  refine CW.seq ?_
  refine CW.region ?_
  refine RW.soft Wd.a (v := .int .i64 0) (by exact E.assign rfl) ?_
  refine RW.fin (fun τ => τ 0 = .pointer (some ⟨b, 0, none⟩) ∧ τ 1 = .int .i64 k ∧ τ 2 = .int .i64 u ∧ τ 6 = .int .i64 0) ⟨up rfl hs0, up rfl hs1, up rfl hs2, tp⟩ ?_
  rintro τ ⟨hs0, hs1, hs2, hs6⟩
  refine CW.seq ?_
  refine CW.seq ?_
  refine CW.region ?_
  refine RW.soft Wd.a (v := .int .i64 k) (by exact E.move (AF_ev rfl hs1)) ?_
  refine RW.soft Wd.a (v := .pointer (some ⟨b, 0, none⟩)) (by exact E.move (AF_ev rfl (up rfl hs0))) ?_
  refine RW.soft Wd.a (v := .pointer (some ⟨b, 0, none⟩)) (by exact E.nilCheck (a := ⟨b, 0, none⟩) (AF_ev rfl tp)) ?_
  refine RW.soft Wd.a (v := .pointer (some ⟨b, 0, none⟩)) (by exact E.fieldAddr (b := b) (o := 0) (f := { name := "Index", type := 3, offset := 0, embedded := false, tag := "", pkgPath := "", byteOffset := 0 }) (AF_ev rfl tp) Try.underlying106 rfl sz3 rfl) ?_
  refine RW.soft Wd.a (v := .int .i64 i) (by exact E.load (a := ⟨b, 0, none⟩) Try.underlying3 rfl (AF_ev rfl tp) (hst.cell .here rfl)) ?_
  refine RW.soft Wd.a (v := .bool false) (by exact E.b (a := decide (k < i)) (E.lss (k := .i64) (a := k) (b := i) (AF_ev rfl (up rfl (up rfl (up rfl (up rfl tp))))) (AF_ev rfl tp)) (decide_eq_false (by omega))) ?_
  refine RW.soft Wd.a (v := .bool false) (by exact E.move (AF_ev rfl tp)) ?_
  refine RW.soft (by exact Wd.yes (x := 15) rfl (AF_ev rfl tp)) (v := .int .i64 k) (by exact E.move (AF_ev rfl (up rfl (up rfl (up rfl (up rfl (up rfl (up rfl (up rfl hs1))))))))) ?_
  refine RW.soft (by exact Wd.yes (x := 15) rfl (AF_ev rfl (up rfl tp))) (v := .bool false) (by exact E.b (a := decide (k > 1099511627776)) (E.gtr (k := .i64) (a := k) (b := 1099511627776) (AF_ev rfl tp) rfl) (decide_eq_false (by omega))) ?_
  refine RW.soft Wd.a (v := .bool false) (by exact E.pickF (AF_ev rfl (up rfl (up rfl tp))) (AF_ev rfl tp)) ?_
  refine RW.fin (fun τ => τ 0 = .pointer (some ⟨b, 0, none⟩) ∧ τ 1 = .int .i64 k ∧ τ 2 = .int .i64 u ∧ τ 6 = .int .i64 0 ∧ τ 18 = .bool false) ⟨up rfl (up rfl (up rfl (up rfl (up rfl (up rfl (up rfl (up rfl (up rfl (up rfl hs0))))))))), up rfl (up rfl (up rfl (up rfl (up rfl (up rfl (up rfl (up rfl (up rfl (up rfl hs1))))))))), up rfl (up rfl (up rfl (up rfl (up rfl (up rfl (up rfl (up rfl (up rfl (up rfl hs2))))))))), up rfl (up rfl (up rfl (up rfl (up rfl (up rfl (up rfl (up rfl (up rfl (up rfl hs6))))))))), tp⟩ ?_
  rintro τ ⟨hs0, hs1, hs2, hs6, hs18⟩
  refine CW.condF (AF_ev rfl hs18) ?_
  refine CW.skip ?_
  refine Th.n ?_
  refine CW.seq ?_
  refine CW.region ?_
  refine RW.soft Wd.a (v := .pointer (some ⟨b, 0, none⟩)) (by exact E.move (AF_ev rfl hs0)) ?_
  refine RW.soft Wd.a (v := .int .i64 k) (by exact E.move (AF_ev rfl (up rfl hs1))) ?_
  have hst := hst.take (.there .here)
  have hst := hst.take (.there .here)
  have hst := refClose hi hn hE hst
  refine RW.hard Wd.a ?_
  refine H.call0 Try.func59 nm59 rfl (map2 (AF_ev rfl (up rfl tp)) (AF_ev rfl tp)) (Calls.mono (ref_Term k (by omega) hst) ?_)
  rintro _ w ⟨rfl, hst⟩
  refine ⟨_, rfl, ?_⟩
  show RW _ _ _ _ _ _ _
  refine RW.soft Wd.a (v := .tuple #[.int .i64 (termT i t (ts es) k), .int .i64 (termE i (ts es) k)]) (by exact E.move (AF_ev rfl tp)) ?_
  refine RW.soft Wd.a (v := .int .i64 (termT i t (ts es) k)) (by exact E.extract (vs := #[.int .i64 (termT i t (ts es) k), .int .i64 (termE i (ts es) k)]) (AF_ev rfl tp) rfl) ?_
  refine RW.soft Wd.a (v := .int .i64 (termE i (ts es) k)) (by exact E.extract (vs := #[.int .i64 (termT i t (ts es) k), .int .i64 (termE i (ts es) k)]) (AF_ev rfl (up rfl tp)) rfl) ?_
  refine RW.soft Wd.a (v := .int .i64 (termT i t (ts es) k)) (by exact E.assign (AF_ev rfl (up rfl tp))) ?_
  refine RW.soft Wd.a (v := .int .i64 (termE i (ts es) k)) (by exact E.assign (AF_ev rfl (up rfl tp))) ?_
  refine RW.fin (fun τ => τ 0 = .pointer (some ⟨b, 0, none⟩) ∧ τ 1 = .int .i64 k ∧ τ 2 = .int .i64 u ∧ τ 6 = .int .i64 0 ∧ τ 7 = .int .i64 (termT i t (ts es) k) ∧ τ 8 = .int .i64 (termE i (ts es) k) ∧ τ 18 = .bool false) ⟨up rfl (up rfl (up rfl (up rfl (up rfl (up rfl (up rfl (up rfl hs0))))))), up rfl (up rfl (up rfl (up rfl (up rfl (up rfl (up rfl (up rfl hs1))))))), up rfl (up rfl (up rfl (up rfl (up rfl (up rfl (up rfl (up rfl hs2))))))), up rfl (up rfl (up rfl (up rfl (up rfl (up rfl (up rfl (up rfl hs6))))))), up rfl tp, tp, up rfl (up rfl (up rfl (up rfl (up rfl (up rfl (up rfl (up rfl hs18)))))))⟩ ?_
  rintro τ ⟨hs0, hs1, hs2, hs6, hs7, hs8, hs18⟩
  refine CW.seq ?_
  refine CW.seq ?_
  obtain ⟨X, c, hi, hn, hE, hcc, hX, hst⟩ := refOpen hst
  refine CW.cut (fun τ => τ 0 = .pointer (some ⟨b, 0, none⟩) ∧ τ 1 = .int .i64 k ∧ τ 2 = .int .i64 u ∧ τ 6 = .int .i64 0 ∧ τ 7 = .int .i64 (termT i t (ts es) k) ∧ τ 8 = .int .i64 (termE i (ts es) k) ∧ τ 18 = .bool false ∧ τ 39 = .bool ((k == i) || (((termE i (ts es) k) == 0) && ((termT i t (ts es) k) == u)))) ?_ ?_
  · refine CW.region ?_
    refine RW.soft Wd.a (v := .int .i64 k) (by exact E.move (AF_ev rfl hs1)) ?_
    refine RW.soft Wd.a (v := .pointer (some ⟨b, 0, none⟩)) (by exact E.move (AF_ev rfl (up rfl hs0))) ?_
    refine RW.soft Wd.a (v := .pointer (some ⟨b, 0, none⟩)) (by exact E.nilCheck (a := ⟨b, 0, none⟩) (AF_ev rfl tp)) ?_
    refine RW.soft Wd.a (v := .pointer (some ⟨b, 0, none⟩)) (by exact E.fieldAddr (b := b) (o := 0) (f := { name := "Index", type := 3, offset := 0, embedded := false, tag := "", pkgPath := "", byteOffset := 0 }) (AF_ev rfl tp) Try.underlying106 rfl sz3 rfl) ?_
    refine RW.soft Wd.a (v := .int .i64 i) (by exact E.load (a := ⟨b, 0, none⟩) Try.underlying3 rfl (AF_ev rfl tp) (hst.cell .here rfl)) ?_
    refine RW.soft Wd.a (v := .bool (k == i)) (by exact E.eql (k := .i64) (a := k) (b := i) (AF_ev rfl (up rfl (up rfl (up rfl (up rfl tp))))) (AF_ev rfl tp)) ?_
    refine RW.soft Wd.a (v := .bool (k == i)) (by exact E.move (AF_ev rfl tp)) ?_
    refine Or.elim (Bool.eq_false_or_eq_true (k == i)) (fun hg1 => ?_) (fun hg1 => ?_)
    · have hg1_ := hg1
      try simp only [decide_eq_true_eq, decide_eq_false_iff_not, Bool.and_eq_true, Bool.or_eq_true, Bool.and_eq_false_iff, Bool.or_eq_false_iff, Bool.not_eq_true', Bool.not_eq_false', beq_iff_eq, beq_eq_false_iff_ne, bne_iff_ne, bne_eq_false_iff_eq, ne_eq, Int.not_lt, Int.not_le, gt_iff_lt, ge_iff_le] at hg1_
      refine RW.pass (by exact Wd.no (x := 31) (b := true) rfl (AF_ev rfl (Eq.trans tp (congrArg Value.bool hg1))) rfl) ?_
      refine RW.pass (by exact Wd.no (x := 31) (b := true) rfl (AF_ev rfl (up rfl (Eq.trans tp (congrArg Value.bool hg1)))) rfl) ?_
      refine RW.pass (by exact Wd.no (x := 31) (b := true) rfl (AF_ev rfl (up rfl (up rfl (Eq.trans tp (congrArg Value.bool hg1))))) rfl) ?_
      refine RW.pass (by exact Wd.u (x := 34) rfl (AF_ev rfl tp)) ?_
      refine RW.pass (by exact Wd.u (x := 34) rfl (AF_ev rfl (up rfl tp))) ?_
      refine RW.pass (by exact Wd.u (x := 34) rfl (AF_ev rfl (up rfl (up rfl tp)))) ?_
      refine RW.pass (by exact Wd.no (x := 31) (b := true) rfl (AF_ev rfl (up rfl (up rfl (up rfl (up rfl (up rfl (up rfl (Eq.trans tp (congrArg Value.bool hg1))))))))) rfl) ?_
      refine RW.soft Wd.a (v := .bool true) (by exact E.pickT (AF_ev rfl (up rfl (up rfl (up rfl (up rfl (up rfl (up rfl (up rfl (Eq.trans tp (congrArg Value.bool hg1)))))))))) rfl) ?_
      refine RW.nil ⟨rfl, rfl, up rfl (up rfl (up rfl (up rfl (up rfl (up rfl (up rfl (up rfl (up rfl (up rfl (up rfl (up rfl (up rfl (up rfl (up rfl hs0)))))))))))))), up rfl (up rfl (up rfl (up rfl (up rfl (up rfl (up rfl (up rfl (up rfl (up rfl (up rfl (up rfl (up rfl (up rfl (up rfl hs1)))))))))))))), up rfl (up rfl (up rfl (up rfl (up rfl (up rfl (up rfl (up rfl (up rfl (up rfl (up rfl (up rfl (up rfl (up rfl (up rfl hs2)))))))))))))), up rfl (up rfl (up rfl (up rfl (up rfl (up rfl (up rfl (up rfl (up rfl (up rfl (up rfl (up rfl (up rfl (up rfl (up rfl hs6)))))))))))))), up rfl (up rfl (up rfl (up rfl (up rfl (up rfl (up rfl (up rfl (up rfl (up rfl (up rfl (up rfl (up rfl (up rfl (up rfl hs7)))))))))))))), up rfl (up rfl (up rfl (up rfl (up rfl (up rfl (up rfl (up rfl (up rfl (up rfl (up rfl (up rfl (up rfl (up rfl (up rfl hs8)))))))))))))), up rfl (up rfl (up rfl (up rfl (up rfl (up rfl (up rfl (up rfl (up rfl (up rfl (up rfl (up rfl (up rfl (up rfl (up rfl hs18)))))))))))))), (bool_eq (a := true) tp (by simp only [hg1, Bool.true_and, Bool.false_and, Bool.true_or, Bool.false_or]))⟩
    · have hg1_ := hg1
      try simp only [decide_eq_true_eq, decide_eq_false_iff_not, Bool.and_eq_true, Bool.or_eq_true, Bool.and_eq_false_iff, Bool.or_eq_false_iff, Bool.not_eq_true', Bool.not_eq_false', beq_iff_eq, beq_eq_false_iff_ne, bne_iff_ne, bne_eq_false_iff_eq, ne_eq, Int.not_lt, Int.not_le, gt_iff_lt, ge_iff_le] at hg1_
      refine RW.soft (by exact Wd.yes (x := 31) rfl (AF_ev rfl (Eq.trans tp (congrArg Value.bool hg1)))) (v := .int .i64 (termE i (ts es) k)) (by exact E.move (AF_ev rfl (up rfl (up rfl (up rfl (up rfl (up rfl (up rfl (up rfl hs8))))))))) ?_
      refine RW.soft (by exact Wd.yes (x := 31) rfl (AF_ev rfl (up rfl (Eq.trans tp (congrArg Value.bool hg1))))) (v := .bool ((termE i (ts es) k) == 0)) (by exact E.eql (k := .i64) (a := termE i (ts es) k) (b := 0) (AF_ev rfl tp) rfl) ?_
      refine RW.soft (by exact Wd.yes (x := 31) rfl (AF_ev rfl (up rfl (up rfl (Eq.trans tp (congrArg Value.bool hg1)))))) (v := .bool ((termE i (ts es) k) == 0)) (by exact E.move (AF_ev rfl tp)) ?_
      refine Or.elim (Bool.eq_false_or_eq_true ((termE i (ts es) k) == 0)) (fun hg2 => ?_) (fun hg2 => ?_)
      · have hg2_ := hg2
        try simp only [decide_eq_true_eq, decide_eq_false_iff_not, Bool.and_eq_true, Bool.or_eq_true, Bool.and_eq_false_iff, Bool.or_eq_false_iff, Bool.not_eq_true', Bool.not_eq_false', beq_iff_eq, beq_eq_false_iff_ne, bne_iff_ne, bne_eq_false_iff_eq, ne_eq, Int.not_lt, Int.not_le, gt_iff_lt, ge_iff_le] at hg2_
        refine RW.soft (by exact Wd.yes (x := 34) rfl (AF_ev rfl (Eq.trans tp (congrArg Value.bool hg2)))) (v := .int .i64 (termT i t (ts es) k)) (by exact E.move (AF_ev rfl (up rfl (up rfl (up rfl (up rfl (up rfl (up rfl (up rfl (up rfl (up rfl (up rfl hs7)))))))))))) ?_
        refine RW.soft (by exact Wd.yes (x := 34) rfl (AF_ev rfl (up rfl (Eq.trans tp (congrArg Value.bool hg2))))) (v := .int .i64 u) (by exact E.move (AF_ev rfl (up rfl (up rfl (up rfl (up rfl (up rfl (up rfl (up rfl (up rfl (up rfl (up rfl (up rfl hs2))))))))))))) ?_
        refine RW.soft (by exact Wd.yes (x := 34) rfl (AF_ev rfl (up rfl (up rfl (Eq.trans tp (congrArg Value.bool hg2)))))) (v := .bool ((termT i t (ts es) k) == u)) (by exact E.eql (k := .i64) (a := termT i t (ts es) k) (b := u) (AF_ev rfl (up rfl tp)) (AF_ev rfl tp)) ?_
        refine RW.soft (by exact Wd.yes (x := 31) rfl (AF_ev rfl (up rfl (up rfl (up rfl (up rfl (up rfl (up rfl (Eq.trans tp (congrArg Value.bool hg1)))))))))) (v := .bool ((termT i t (ts es) k) == u)) (by exact E.pickT (AF_ev rfl (up rfl (up rfl (up rfl (Eq.trans tp (congrArg Value.bool hg2)))))) (AF_ev rfl tp)) ?_
        refine RW.soft Wd.a (v := .bool ((termT i t (ts es) k) == u)) (by exact E.pickF (AF_ev rfl (up rfl (up rfl (up rfl (up rfl (up rfl (up rfl (up rfl (Eq.trans tp (congrArg Value.bool hg1)))))))))) (AF_ev rfl tp)) ?_
        refine RW.nil ⟨rfl, rfl, up rfl (up rfl (up rfl (up rfl (up rfl (up rfl (up rfl (up rfl (up rfl (up rfl (up rfl (up rfl (up rfl (up rfl (up rfl hs0)))))))))))))), up rfl (up rfl (up rfl (up rfl (up rfl (up rfl (up rfl (up rfl (up rfl (up rfl (up rfl (up rfl (up rfl (up rfl (up rfl hs1)))))))))))))), up rfl (up rfl (up rfl (up rfl (up rfl (up rfl (up rfl (up rfl (up rfl (up rfl (up rfl (up rfl (up rfl (up rfl (up rfl hs2)))))))))))))), up rfl (up rfl (up rfl (up rfl (up rfl (up rfl (up rfl (up rfl (up rfl (up rfl (up rfl (up rfl (up rfl (up rfl (up rfl hs6)))))))))))))), up rfl (up rfl (up rfl (up rfl (up rfl (up rfl (up rfl (up rfl (up rfl (up rfl (up rfl (up rfl (up rfl (up rfl (up rfl hs7)))))))))))))), up rfl (up rfl (up rfl (up rfl (up rfl (up rfl (up rfl (up rfl (up rfl (up rfl (up rfl (up rfl (up rfl (up rfl (up rfl hs8)))))))))))))), up rfl (up rfl (up rfl (up rfl (up rfl (up rfl (up rfl (up rfl (up rfl (up rfl (up rfl (up rfl (up rfl (up rfl (up rfl hs18)))))))))))))), (bool_eq (a := (termT i t (ts es) k) == u) tp (by simp only [hg1, hg2, Bool.true_and, Bool.false_and, Bool.true_or, Bool.false_or]))⟩
      · have hg2_ := hg2
        try simp only [decide_eq_true_eq, decide_eq_false_iff_not, Bool.and_eq_true, Bool.or_eq_true, Bool.and_eq_false_iff, Bool.or_eq_false_iff, Bool.not_eq_true', Bool.not_eq_false', beq_iff_eq, beq_eq_false_iff_ne, bne_iff_ne, bne_eq_false_iff_eq, ne_eq, Int.not_lt, Int.not_le, gt_iff_lt, ge_iff_le] at hg2_
        refine RW.pass (by exact Wd.no (x := 34) (b := false) rfl (AF_ev rfl (Eq.trans tp (congrArg Value.bool hg2))) rfl) ?_
        refine RW.pass (by exact Wd.no (x := 34) (b := false) rfl (AF_ev rfl (up rfl (Eq.trans tp (congrArg Value.bool hg2)))) rfl) ?_
        refine RW.pass (by exact Wd.no (x := 34) (b := false) rfl (AF_ev rfl (up rfl (up rfl (Eq.trans tp (congrArg Value.bool hg2))))) rfl) ?_
        refine RW.soft (by exact Wd.yes (x := 31) rfl (AF_ev rfl (up rfl (up rfl (up rfl (up rfl (up rfl (up rfl (Eq.trans tp (congrArg Value.bool hg1)))))))))) (v := .bool false) (by exact E.pickF (AF_ev rfl (up rfl (up rfl (up rfl (Eq.trans tp (congrArg Value.bool hg2)))))) rfl) ?_
        refine RW.soft Wd.a (v := .bool false) (by exact E.pickF (AF_ev rfl (up rfl (up rfl (up rfl (up rfl (up rfl (up rfl (up rfl (Eq.trans tp (congrArg Value.bool hg1)))))))))) (AF_ev rfl tp)) ?_
        refine RW.nil ⟨rfl, rfl, up rfl (up rfl (up rfl (up rfl (up rfl (up rfl (up rfl (up rfl (up rfl (up rfl (up rfl (up rfl (up rfl (up rfl (up rfl hs0)))))))))))))), up rfl (up rfl (up rfl (up rfl (up rfl (up rfl (up rfl (up rfl (up rfl (up rfl (up rfl (up rfl (up rfl (up rfl (up rfl hs1)))))))))))))), up rfl (up rfl (up rfl (up rfl (up rfl (up rfl (up rfl (up rfl (up rfl (up rfl (up rfl (up rfl (up rfl (up rfl (up rfl hs2)))))))))))))), up rfl (up rfl (up rfl (up rfl (up rfl (up rfl (up rfl (up rfl (up rfl (up rfl (up rfl (up rfl (up rfl (up rfl (up rfl hs6)))))))))))))), up rfl (up rfl (up rfl (up rfl (up rfl (up rfl (up rfl (up rfl (up rfl (up rfl (up rfl (up rfl (up rfl (up rfl (up rfl hs7)))))))))))))), up rfl (up rfl (up rfl (up rfl (up rfl (up rfl (up rfl (up rfl (up rfl (up rfl (up rfl (up rfl (up rfl (up rfl (up rfl hs8)))))))))))))), up rfl (up rfl (up rfl (up rfl (up rfl (up rfl (up rfl (up rfl (up rfl (up rfl (up rfl (up rfl (up rfl (up rfl (up rfl hs18)))))))))))))), (bool_eq (a := false) tp (by simp only [hg1, hg2, Bool.true_and, Bool.false_and, Bool.true_or, Bool.false_or]))⟩
  rintro τ ⟨hs0, hs1, hs2, hs6, hs7, hs8, hs18, hs39⟩
  refine CW.cond (AF_ev rfl hs39) (fun hc3 => ?_) (fun hc3 => ?_)
  · have hc3_ := hc3
    try simp only [decide_eq_true_eq, decide_eq_false_iff_not, Bool.and_eq_true, Bool.or_eq_true, Bool.and_eq_false_iff, Bool.or_eq_false_iff, Bool.not_eq_true', Bool.not_eq_false', beq_iff_eq, beq_eq_false_iff_ne, bne_iff_ne, bne_eq_false_iff_eq, ne_eq, Int.not_lt, Int.not_le, gt_iff_lt, ge_iff_le] at hc3_
    have hkp : keepB i t (ts es) k u = true := hc3
    have hkr := keep_range hkp
    rw [ts_len] at hkr
    refine Or.elim (Bool.eq_false_or_eq_true (decide (0 < es.length))) (fun hne => ?_) (fun hne => ?_)
    · skip
      have htl := ts_len es
      have hnc := St_nilcap (hst.take (.there .here))
      have hne_ := of_decide_eq_true hne
      obtain ⟨g, rfl⟩ := hX (by omega)
      obtain ⟨off, hoff⟩ : ∃ z, z = if (k - i).toNat = c then 0 else 0 + (k - i).toNat * 4 := ⟨_, rfl⟩
      have hdl : (es.drop (k - i).toNat).length ≤ es.length := by rw [List.length_drop]; omega
      refine CW.regionD [0, 2, 3, 4, 5, 6, 7, 8, 9, 10, 11, 12] (fun w => w.cell? ⟨b, 2, none⟩ = some (.slice (some ⟨g, 0, none⟩) es.length c) ∧ w.cell? ⟨b, 0, none⟩ = some (.int .i64 i)) mixed ?_
      have hst := hst.drew
      generalize w.drew = w at hst ⊢
      have hS : w.cell? ⟨b, 2, none⟩ = some (.slice (some ⟨g, 0, none⟩) es.length c) ∧ w.cell? ⟨b, 0, none⟩ = some (.int .i64 i) := ⟨hst.cell .here rfl, hst.cell .here rfl⟩
      refine RD.take 0 rfl (by kernel_rfl) Wd.a (v := .pointer (some ⟨b, 0, none⟩)) (fun w hS => by exact E.move (AF_ev rfl hs0)) hS ?_
      refine RD.take 2 rfl (by kernel_rfl) Wd.a (v := .pointer (some ⟨b, 0, none⟩)) (fun w hS => by exact E.move (AF_ev rfl (up rfl hs0))) hS ?_
      refine RD.take 3 rfl (by kernel_rfl) Wd.a (v := .pointer (some ⟨b, 0, none⟩)) (fun w hS => by exact E.nilCheck (a := ⟨b, 0, none⟩) (AF_ev rfl tp)) hS ?_
      refine RD.take 4 rfl (by kernel_rfl) Wd.a (v := .pointer (some ⟨b, 2, none⟩)) (fun w hS => by exact E.fieldAddr (b := b) (o := 0) (f := { name := "L", type := 44, offset := 2, embedded := false, tag := "", pkgPath := "", byteOffset := 16 }) (AF_ev rfl tp) Try.underlying106 rfl sz44 rfl) hS ?_
      refine RD.take 5 rfl (by kernel_rfl) Wd.a (v := .slice (some ⟨g, 0, none⟩) es.length c) (fun w hS => by exact E.load (a := ⟨b, 2, none⟩) Try.underlying44 rfl (AF_ev rfl tp) hS.1) hS ?_
      refine RD.take 6 rfl (by kernel_rfl) Wd.a (v := .int .i64 k) (fun w hS => by exact E.move (AF_ev rfl (up rfl (up rfl (up rfl (up rfl (up rfl hs1))))))) hS ?_
      refine RD.take 7 rfl (by kernel_rfl) Wd.a (v := .pointer (some ⟨b, 0, none⟩)) (fun w hS => by exact E.move (AF_ev rfl (up rfl (up rfl (up rfl (up rfl (up rfl (up rfl hs0)))))))) hS ?_
      refine RD.take 8 rfl (by kernel_rfl) Wd.a (v := .pointer (some ⟨b, 0, none⟩)) (fun w hS => by exact E.nilCheck (a := ⟨b, 0, none⟩) (AF_ev rfl tp)) hS ?_
      refine RD.take 9 rfl (by kernel_rfl) Wd.a (v := .pointer (some ⟨b, 0, none⟩)) (fun w hS => by exact E.fieldAddr (b := b) (o := 0) (f := { name := "Index", type := 3, offset := 0, embedded := false, tag := "", pkgPath := "", byteOffset := 0 }) (AF_ev rfl tp) Try.underlying106 rfl sz3 rfl) hS ?_
      refine RD.take 10 rfl (by kernel_rfl) Wd.a (v := .int .i64 i) (fun w hS => by exact E.load (a := ⟨b, 0, none⟩) Try.underlying3 rfl (AF_ev rfl tp) hS.2) hS ?_
      refine RD.take 11 rfl (by kernel_rfl) Wd.a (v := .int .i64 (k - i)) (fun w hS => by exact E.sub (k := .i64) (a := k) (b := i) (AF_ev rfl (up rfl (up rfl (up rfl (up rfl tp))))) (AF_ev rfl tp) (show IntKind.i64.wrap (k - i) = k - i from (by rw [IntWalk.i64_in _ (by omega)]))) hS ?_
      refine RD.take 12 rfl (by kernel_rfl) Wd.a (v := .slice (some ⟨g, off, none⟩) ((es.drop (k - i).toNat).length) (c - (k - i).toNat)) (fun w hS => by exact E.slice (i := (k - i).toNat) (j := es.length) Try.underlying44 sz58 (AF_ev rfl (up rfl (up rfl (up rfl (up rfl (up rfl (up rfl tp))))))) (int_eq (a := k - i) (AF_ev rfl tp) (by omega)) rfl (by omega) (by omega) (by rw [hoff, List.length_drop])) hS ?_
      refine RD.only 1 rfl (by kernel_rfl) Wd.a ?_
      refine H.buildSlice (e := 58) (cs := #[]) (vs := #[]) (by simp) (fun _ => by kernel_rfl) hst fun b4 w hst => ?_
      have hS : w.cell? ⟨b, 2, none⟩ = some (.slice (some ⟨g, 0, none⟩) es.length c) ∧ w.cell? ⟨b, 0, none⟩ = some (.int .i64 i) := ⟨hst.cell (.there .here) rfl, hst.cell (.there .here) rfl⟩
      refine ⟨fun _ => hS, ?_⟩
      refine RD.only 13 rfl (by kernel_rfl) Wd.a ?_
      have hst := hst.ownNew (n := 0) (cap := 0) (sz := 4) (xs := []) (by omega) (by simp [maxLen]) rfl rfl
      refine H.append2 (n2 := (es.drop (k - i).toNat).length) (xs2 := flat (es.drop (k - i).toNat)) (by first | rfl | simp) (by first | rfl | simp) (m := (es.drop (k - i).toNat).length) (news := flat (es.drop (k - i).toNat)) (s0 := .slice (some ⟨b4, 0, none⟩) 0 0) (x0 := .slice (some ⟨g, off, none⟩) ((es.drop (k - i).toNat).length) (c - (k - i).toNat)) Try.underlying44 inf58 rfl (AF_ev rfl tp) (AF_ev rfl (up rfl tp)) hst .here (by have q := (Own.src (hst.take (.there (.there .here)))).lower (k := (k - i).toNat) (by omega); rw [flat_drop, ← hoff, ← List.length_drop] at q; exact q) (flat_one _) (by omega) (by simp only [maxLen]; omega) ?_
      intro vX5 w hnilX5 hst
      obtain ⟨X5, c6, rfl, hcX5, hmX5, hlX5, hbX5⟩ := hst.shape
      have hS : w.cell? ⟨b, 2, none⟩ = some (.slice (some ⟨g, 0, none⟩) es.length c) ∧ w.cell? ⟨b, 0, none⟩ = some (.int .i64 i) := ⟨hst.cell (.there .here) rfl, hst.cell (.there .here) rfl⟩
      refine ⟨fun _ => hS, ?_⟩
      refine RD.only 14 rfl (by kernel_rfl) Wd.a (Hd.value (v := .pointer (some ⟨b, 0, none⟩)) (by exact E.nilCheck (a := ⟨b, 0, none⟩) (AF_ev rfl (up rfl (up rfl (up rfl (up rfl (up rfl (up rfl (up rfl (up rfl (up rfl (up rfl (up rfl (up rfl (up rfl tp))))))))))))))) ⟨fun h => Bool.noConfusion ((show needs _ _ _ = false by kernel_rfl).symm.trans h), ?_⟩)
      refine RD.only 15 rfl (by kernel_rfl) Wd.a (Hd.value (v := .pointer (some ⟨b, 2, none⟩)) (by exact E.fieldAddr (b := b) (o := 0) (f := { name := "L", type := 44, offset := 2, embedded := false, tag := "", pkgPath := "", byteOffset := 16 }) (AF_ev rfl tp) Try.underlying106 rfl sz44 rfl) ⟨fun h => Bool.noConfusion ((show needs _ _ _ = false by kernel_rfl).symm.trans h), ?_⟩)
      refine RD.only 16 rfl (by kernel_rfl) Wd.a ?_
      refine H.store (b := b) (o := 2) (v := .slice X5 ((es.drop (k - i).toNat).length) c6) (c' := #[.int .i64 i, .int .i64 t, .slice X5 ((es.drop (k - i).toNat).length) c6]) (AF_ev rfl tp) (AF_ev rfl (up rfl (up rfl tp))) hst (.there .here) sz44 (by simp [Value.cells]) (by simp [Value.cells, Value.oneCell']) rfl fun w hst => ?_
      refine ⟨fun h => Bool.noConfusion ((show needs _ _ _ = false by kernel_rfl).symm.trans h), ?_⟩
      refine RD.fin (by kernel_rfl) (fun τ => τ 0 = .pointer (some ⟨b, 0, none⟩) ∧ τ 1 = .int .i64 k ∧ τ 2 = .int .i64 u ∧ τ 6 = .int .i64 0 ∧ τ 7 = .int .i64 (termT i t (ts es) k) ∧ τ 8 = .int .i64 (termE i (ts es) k) ∧ τ 18 = .bool false ∧ τ 39 = .bool true) ⟨u0 (up rfl (up rfl (up rfl (up rfl (up rfl (up rfl (up rfl (up rfl (up rfl (up rfl (up rfl (up rfl (up rfl (up rfl (up rfl (up rfl hs0)))))))))))))))), u0 (up rfl (up rfl (up rfl (up rfl (up rfl (up rfl (up rfl (up rfl (up rfl (up rfl (up rfl (up rfl (up rfl (up rfl (up rfl (up rfl hs1)))))))))))))))), u0 (up rfl (up rfl (up rfl (up rfl (up rfl (up rfl (up rfl (up rfl (up rfl (up rfl (up rfl (up rfl (up rfl (up rfl (up rfl (up rfl hs2)))))))))))))))), u0 (up rfl (up rfl (up rfl (up rfl (up rfl (up rfl (up rfl (up rfl (up rfl (up rfl (up rfl (up rfl (up rfl (up rfl (up rfl (up rfl hs6)))))))))))))))), u0 (up rfl (up rfl (up rfl (up rfl (up rfl (up rfl (up rfl (up rfl (up rfl (up rfl (up rfl (up rfl (up rfl (up rfl (up rfl (up rfl hs7)))))))))))))))), u0 (up rfl (up rfl (up rfl (up rfl (up rfl (up rfl (up rfl (up rfl (up rfl (up rfl (up rfl (up rfl (up rfl (up rfl (up rfl (up rfl hs8)))))))))))))))), u0 (up rfl (up rfl (up rfl (up rfl (up rfl (up rfl (up rfl (up rfl (up rfl (up rfl (up rfl (up rfl (up rfl (up rfl (up rfl (up rfl hs18)))))))))))))))), u0 (up rfl (up rfl (up rfl (up rfl (up rfl (up rfl (up rfl (up rfl (up rfl (up rfl (up rfl (up rfl (up rfl (up rfl (up rfl (up rfl (Eq.trans hs39 (congrArg Value.bool hc3))))))))))))))))))⟩ ?_
      rintro τ ⟨hs0, hs1, hs2, hs6, hs7, hs8, hs18, hs39⟩
      refine CW.seq ?_
      refine CW.region ?_
      refine RW.soft Wd.a (v := .pointer (some ⟨b, 0, none⟩)) (by exact E.move (AF_ev rfl hs0)) ?_
      refine RW.soft Wd.a (v := .int .i64 k) (by exact E.move (AF_ev rfl (up rfl hs1))) ?_
      refine RW.soft Wd.a (v := .pointer (some ⟨b, 0, none⟩)) (by exact E.nilCheck (a := ⟨b, 0, none⟩) (AF_ev rfl (up rfl tp))) ?_
      refine RW.soft Wd.a (v := .pointer (some ⟨b, 0, none⟩)) (by exact E.fieldAddr (b := b) (o := 0) (f := { name := "Index", type := 3, offset := 0, embedded := false, tag := "", pkgPath := "", byteOffset := 0 }) (AF_ev rfl tp) Try.underlying106 rfl sz3 rfl) ?_
      refine RW.hard Wd.a ?_
      refine H.store (b := b) (o := 0) (v := .int .i64 k) (c' := #[.int .i64 k, .int .i64 t, .slice X5 ((es.drop (k - i).toNat).length) c6]) (AF_ev rfl tp) (AF_ev rfl (up rfl (up rfl tp))) hst (.there .here) sz3 (by simp [Value.cells]) (by simp [Value.cells, Value.oneCell']) rfl fun w hst => ?_
      refine RW.fin (fun τ => τ 0 = .pointer (some ⟨b, 0, none⟩) ∧ τ 1 = .int .i64 k ∧ τ 2 = .int .i64 u ∧ τ 6 = .int .i64 0 ∧ τ 7 = .int .i64 (termT i t (ts es) k) ∧ τ 8 = .int .i64 (termE i (ts es) k) ∧ τ 18 = .bool false ∧ τ 39 = .bool true) ⟨u0 (up rfl (up rfl (up rfl (up rfl hs0)))), u0 (up rfl (up rfl (up rfl (up rfl hs1)))), u0 (up rfl (up rfl (up rfl (up rfl hs2)))), u0 (up rfl (up rfl (up rfl (up rfl hs6)))), u0 (up rfl (up rfl (up rfl (up rfl hs7)))), u0 (up rfl (up rfl (up rfl (up rfl hs8)))), u0 (up rfl (up rfl (up rfl (up rfl hs18)))), u0 (up rfl (up rfl (up rfl (up rfl hs39))))⟩ ?_
      rintro τ ⟨hs0, hs1, hs2, hs6, hs7, hs8, hs18, hs39⟩
      refine CW.seq ?_
      refine CW.region ?_
      refine RW.soft Wd.a (v := .pointer (some ⟨b, 0, none⟩)) (by exact E.move (AF_ev rfl hs0)) ?_
      refine RW.soft Wd.a (v := .int .i64 u) (by exact E.move (AF_ev rfl (up rfl hs2))) ?_
      refine RW.soft Wd.a (v := .pointer (some ⟨b, 0, none⟩)) (by exact E.nilCheck (a := ⟨b, 0, none⟩) (AF_ev rfl (up rfl tp))) ?_
      refine RW.soft Wd.a (v := .pointer (some ⟨b, 1, none⟩)) (by exact E.fieldAddr (b := b) (o := 0) (f := { name := "Base", type := 3, offset := 1, embedded := false, tag := "", pkgPath := "", byteOffset := 8 }) (AF_ev rfl tp) Try.underlying106 rfl sz3 rfl) ?_
      refine RW.hard Wd.a ?_
      refine H.store (b := b) (o := 1) (v := .int .i64 u) (c' := #[.int .i64 k, .int .i64 u, .slice X5 ((es.drop (k - i).toNat).length) c6]) (AF_ev rfl tp) (AF_ev rfl (up rfl (up rfl tp))) hst (.there .here) sz3 (by simp [Value.cells]) (by simp [Value.cells, Value.oneCell']) rfl fun w hst => ?_
      refine RW.fin (fun τ => τ 0 = .pointer (some ⟨b, 0, none⟩) ∧ τ 1 = .int .i64 k ∧ τ 2 = .int .i64 u ∧ τ 6 = .int .i64 0 ∧ τ 7 = .int .i64 (termT i t (ts es) k) ∧ τ 8 = .int .i64 (termE i (ts es) k) ∧ τ 18 = .bool false ∧ τ 39 = .bool true) ⟨u0 (up rfl (up rfl (up rfl (up rfl hs0)))), u0 (up rfl (up rfl (up rfl (up rfl hs1)))), u0 (up rfl (up rfl (up rfl (up rfl hs2)))), u0 (up rfl (up rfl (up rfl (up rfl hs6)))), u0 (up rfl (up rfl (up rfl (up rfl hs7)))), u0 (up rfl (up rfl (up rfl (up rfl hs8)))), u0 (up rfl (up rfl (up rfl (up rfl hs18)))), u0 (up rfl (up rfl (up rfl (up rfl hs39))))⟩ ?_
      rintro τ ⟨hs0, hs1, hs2, hs6, hs7, hs8, hs18, hs39⟩
      refine CW.seq ?_
      refine CW.region ?_
      refine RW.soft Wd.a (v := .int .i64 0) (by exact E.assign rfl) ?_
      refine RW.fin (fun τ => τ 0 = .pointer (some ⟨b, 0, none⟩) ∧ τ 1 = .int .i64 k ∧ τ 2 = .int .i64 u ∧ τ 6 = .int .i64 0 ∧ τ 7 = .int .i64 (termT i t (ts es) k) ∧ τ 8 = .int .i64 (termE i (ts es) k) ∧ τ 18 = .bool false ∧ τ 39 = .bool true) ⟨up rfl hs0, up rfl hs1, up rfl hs2, tp, up rfl hs7, up rfl hs8, up rfl hs18, up rfl hs39⟩ ?_
      rintro τ ⟨hs0, hs1, hs2, hs6, hs7, hs8, hs18, hs39⟩
      refine CW.ret ?_
      refine ret1 (v := .int .i64 0) rfl (by exact (.tmp (AF_ev rfl hs6) .nil)) ?_
      have hst := hst.take (.there .here)
      have hst := (hst.take (.there (.there .here))).drop
      refine ⟨rfl, ?_⟩
      rw [hkp, if_pos rfl]
      exact refClose (by omega) (by rw [List.length_drop]; omega) (hE.drop _) hst
    · skip
      have htl := ts_len es
      have hnc := St_nilcap (hst.take (.there .here))
      have hne_ := of_decide_eq_false hne
      have hdl : (es.drop (k - i).toNat).length ≤ es.length := by rw [List.length_drop]; omega
      refine CW.regionD [0, 2, 3, 4, 5, 6, 7, 8, 9, 10, 11, 12] (fun w => w.cell? ⟨b, 2, none⟩ = some (.slice X es.length c) ∧ w.cell? ⟨b, 0, none⟩ = some (.int .i64 i)) mixed ?_
      have hst := hst.drew
      generalize w.drew = w at hst ⊢
      have hS : w.cell? ⟨b, 2, none⟩ = some (.slice X es.length c) ∧ w.cell? ⟨b, 0, none⟩ = some (.int .i64 i) := ⟨hst.cell .here rfl, hst.cell .here rfl⟩
      refine RD.take 0 rfl (by kernel_rfl) Wd.a (v := .pointer (some ⟨b, 0, none⟩)) (fun w hS => by exact E.move (AF_ev rfl hs0)) hS ?_
      refine RD.take 2 rfl (by kernel_rfl) Wd.a (v := .pointer (some ⟨b, 0, none⟩)) (fun w hS => by exact E.move (AF_ev rfl (up rfl hs0))) hS ?_
      refine RD.take 3 rfl (by kernel_rfl) Wd.a (v := .pointer (some ⟨b, 0, none⟩)) (fun w hS => by exact E.nilCheck (a := ⟨b, 0, none⟩) (AF_ev rfl tp)) hS ?_
      refine RD.take 4 rfl (by kernel_rfl) Wd.a (v := .pointer (some ⟨b, 2, none⟩)) (fun w hS => by exact E.fieldAddr (b := b) (o := 0) (f := { name := "L", type := 44, offset := 2, embedded := false, tag := "", pkgPath := "", byteOffset := 16 }) (AF_ev rfl tp) Try.underlying106 rfl sz44 rfl) hS ?_
      refine RD.take 5 rfl (by kernel_rfl) Wd.a (v := .slice X es.length c) (fun w hS => by exact E.load (a := ⟨b, 2, none⟩) Try.underlying44 rfl (AF_ev rfl tp) hS.1) hS ?_
      refine RD.take 6 rfl (by kernel_rfl) Wd.a (v := .int .i64 k) (fun w hS => by exact E.move (AF_ev rfl (up rfl (up rfl (up rfl (up rfl (up rfl hs1))))))) hS ?_
      refine RD.take 7 rfl (by kernel_rfl) Wd.a (v := .pointer (some ⟨b, 0, none⟩)) (fun w hS => by exact E.move (AF_ev rfl (up rfl (up rfl (up rfl (up rfl (up rfl (up rfl hs0)))))))) hS ?_
      refine RD.take 8 rfl (by kernel_rfl) Wd.a (v := .pointer (some ⟨b, 0, none⟩)) (fun w hS => by exact E.nilCheck (a := ⟨b, 0, none⟩) (AF_ev rfl tp)) hS ?_
      refine RD.take 9 rfl (by kernel_rfl) Wd.a (v := .pointer (some ⟨b, 0, none⟩)) (fun w hS => by exact E.fieldAddr (b := b) (o := 0) (f := { name := "Index", type := 3, offset := 0, embedded := false, tag := "", pkgPath := "", byteOffset := 0 }) (AF_ev rfl tp) Try.underlying106 rfl sz3 rfl) hS ?_
      refine RD.take 10 rfl (by kernel_rfl) Wd.a (v := .int .i64 i) (fun w hS => by exact E.load (a := ⟨b, 0, none⟩) Try.underlying3 rfl (AF_ev rfl tp) hS.2) hS ?_
      refine RD.take 11 rfl (by kernel_rfl) Wd.a (v := .int .i64 (k - i)) (fun w hS => by exact E.sub (k := .i64) (a := k) (b := i) (AF_ev rfl (up rfl (up rfl (up rfl (up rfl tp))))) (AF_ev rfl tp) (show IntKind.i64.wrap (k - i) = k - i from (by rw [IntWalk.i64_in _ (by omega)]))) hS ?_
      refine RD.take 12 rfl (by kernel_rfl) Wd.a (v := .slice X es.length c) (fun w hS => by exact E_slice0 (X := X) (l := es.length) (c := c) Try.underlying44 sz58 (AF_ev rfl (up rfl (up rfl (up rfl (up rfl (up rfl (up rfl tp))))))) (int_eq (a := k - i) (AF_ev rfl tp) (by omega)) (by omega) hnc) hS ?_
      refine RD.only 1 rfl (by kernel_rfl) Wd.a ?_
      refine H.buildSlice (e := 58) (cs := #[]) (vs := #[]) (by simp) (fun _ => by kernel_rfl) hst fun b7 w hst => ?_
      have hS : w.cell? ⟨b, 2, none⟩ = some (.slice X es.length c) ∧ w.cell? ⟨b, 0, none⟩ = some (.int .i64 i) := ⟨hst.cell (.there .here) rfl, hst.cell (.there .here) rfl⟩
      refine ⟨fun _ => hS, ?_⟩
      refine RD.only 13 rfl (by kernel_rfl) Wd.a ?_
      have hst := hst.ownNew (n := 0) (cap := 0) (sz := 4) (xs := []) (by omega) (by simp [maxLen]) rfl rfl
      refine H.append2 (n2 := es.length) (xs2 := flat es) (by first | rfl | simp) (by first | rfl | simp) (m := es.length) (news := flat es) (s0 := .slice (some ⟨b7, 0, none⟩) 0 0) (x0 := .slice X es.length c) Try.underlying44 inf58 rfl (AF_ev rfl tp) (AF_ev rfl (up rfl tp)) hst .here (Own.src (hst.take (.there (.there .here)))) (flat_one _) (by omega) (by simp only [maxLen]; omega) ?_
      intro vX8 w hnilX8 hst
      obtain ⟨X8, c9, rfl, hcX8, hmX8, hlX8, hbX8⟩ := hst.shape
      have hS : w.cell? ⟨b, 2, none⟩ = some (.slice X es.length c) ∧ w.cell? ⟨b, 0, none⟩ = some (.int .i64 i) := ⟨hst.cell (.there .here) rfl, hst.cell (.there .here) rfl⟩
      refine ⟨fun _ => hS, ?_⟩
      refine RD.only 14 rfl (by kernel_rfl) Wd.a (Hd.value (v := .pointer (some ⟨b, 0, none⟩)) (by exact E.nilCheck (a := ⟨b, 0, none⟩) (AF_ev rfl (up rfl (up rfl (up rfl (up rfl (up rfl (up rfl (up rfl (up rfl (up rfl (up rfl (up rfl (up rfl (up rfl tp))))))))))))))) ⟨fun h => Bool.noConfusion ((show needs _ _ _ = false by kernel_rfl).symm.trans h), ?_⟩)
      refine RD.only 15 rfl (by kernel_rfl) Wd.a (Hd.value (v := .pointer (some ⟨b, 2, none⟩)) (by exact E.fieldAddr (b := b) (o := 0) (f := { name := "L", type := 44, offset := 2, embedded := false, tag := "", pkgPath := "", byteOffset := 16 }) (AF_ev rfl tp) Try.underlying106 rfl sz44 rfl) ⟨fun h => Bool.noConfusion ((show needs _ _ _ = false by kernel_rfl).symm.trans h), ?_⟩)
      refine RD.only 16 rfl (by kernel_rfl) Wd.a ?_
      refine H.store (b := b) (o := 2) (v := .slice X8 es.length c9) (c' := #[.int .i64 i, .int .i64 t, .slice X8 es.length c9]) (AF_ev rfl tp) (AF_ev rfl (up rfl (up rfl tp))) hst (.there .here) sz44 (by simp [Value.cells]) (by simp [Value.cells, Value.oneCell']) rfl fun w hst => ?_
      refine ⟨fun h => Bool.noConfusion ((show needs _ _ _ = false by kernel_rfl).symm.trans h), ?_⟩
      refine RD.fin (by kernel_rfl) (fun τ => τ 0 = .pointer (some ⟨b, 0, none⟩) ∧ τ 1 = .int .i64 k ∧ τ 2 = .int .i64 u ∧ τ 6 = .int .i64 0 ∧ τ 7 = .int .i64 (termT i t (ts es) k) ∧ τ 8 = .int .i64 (termE i (ts es) k) ∧ τ 18 = .bool false ∧ τ 39 = .bool true) ⟨u0 (up rfl (up rfl (up rfl (up rfl (up rfl (up rfl (up rfl (up rfl (up rfl (up rfl (up rfl (up rfl (up rfl (up rfl (up rfl (up rfl hs0)))))))))))))))), u0 (up rfl (up rfl (up rfl (up rfl (up rfl (up rfl (up rfl (up rfl (up rfl (up rfl (up rfl (up rfl (up rfl (up rfl (up rfl (up rfl hs1)))))))))))))))), u0 (up rfl (up rfl (up rfl (up rfl (up rfl (up rfl (up rfl (up rfl (up rfl (up rfl (up rfl (up rfl (up rfl (up rfl (up rfl (up rfl hs2)))))))))))))))), u0 (up rfl (up rfl (up rfl (up rfl (up rfl (up rfl (up rfl (up rfl (up rfl (up rfl (up rfl (up rfl (up rfl (up rfl (up rfl (up rfl hs6)))))))))))))))), u0 (up rfl (up rfl (up rfl (up rfl (up rfl (up rfl (up rfl (up rfl (up rfl (up rfl (up rfl (up rfl (up rfl (up rfl (up rfl (up rfl hs7)))))))))))))))), u0 (up rfl (up rfl (up rfl (up rfl (up rfl (up rfl (up rfl (up rfl (up rfl (up rfl (up rfl (up rfl (up rfl (up rfl (up rfl (up rfl hs8)))))))))))))))), u0 (up rfl (up rfl (up rfl (up rfl (up rfl (up rfl (up rfl (up rfl (up rfl (up rfl (up rfl (up rfl (up rfl (up rfl (up rfl (up rfl hs18)))))))))))))))), u0 (up rfl (up rfl (up rfl (up rfl (up rfl (up rfl (up rfl (up rfl (up rfl (up rfl (up rfl (up rfl (up rfl (up rfl (up rfl (up rfl (Eq.trans hs39 (congrArg Value.bool hc3))))))))))))))))))⟩ ?_
      rintro τ ⟨hs0, hs1, hs2, hs6, hs7, hs8, hs18, hs39⟩
      refine CW.seq ?_
      refine CW.region ?_
      refine RW.soft Wd.a (v := .pointer (some ⟨b, 0, none⟩)) (by exact E.move (AF_ev rfl hs0)) ?_
      refine RW.soft Wd.a (v := .int .i64 k) (by exact E.move (AF_ev rfl (up rfl hs1))) ?_
      refine RW.soft Wd.a (v := .pointer (some ⟨b, 0, none⟩)) (by exact E.nilCheck (a := ⟨b, 0, none⟩) (AF_ev rfl (up rfl tp))) ?_
      refine RW.soft Wd.a (v := .pointer (some ⟨b, 0, none⟩)) (by exact E.fieldAddr (b := b) (o := 0) (f := { name := "Index", type := 3, offset := 0, embedded := false, tag := "", pkgPath := "", byteOffset := 0 }) (AF_ev rfl tp) Try.underlying106 rfl sz3 rfl) ?_
      refine RW.hard Wd.a ?_
      refine H.store (b := b) (o := 0) (v := .int .i64 k) (c' := #[.int .i64 k, .int .i64 t, .slice X8 es.length c9]) (AF_ev rfl tp) (AF_ev rfl (up rfl (up rfl tp))) hst (.there .here) sz3 (by simp [Value.cells]) (by simp [Value.cells, Value.oneCell']) rfl fun w hst => ?_
      refine RW.fin (fun τ => τ 0 = .pointer (some ⟨b, 0, none⟩) ∧ τ 1 = .int .i64 k ∧ τ 2 = .int .i64 u ∧ τ 6 = .int .i64 0 ∧ τ 7 = .int .i64 (termT i t (ts es) k) ∧ τ 8 = .int .i64 (termE i (ts es) k) ∧ τ 18 = .bool false ∧ τ 39 = .bool true) ⟨u0 (up rfl (up rfl (up rfl (up rfl hs0)))), u0 (up rfl (up rfl (up rfl (up rfl hs1)))), u0 (up rfl (up rfl (up rfl (up rfl hs2)))), u0 (up rfl (up rfl (up rfl (up rfl hs6)))), u0 (up rfl (up rfl (up rfl (up rfl hs7)))), u0 (up rfl (up rfl (up rfl (up rfl hs8)))), u0 (up rfl (up rfl (up rfl (up rfl hs18)))), u0 (up rfl (up rfl (up rfl (up rfl hs39))))⟩ ?_
      rintro τ ⟨hs0, hs1, hs2, hs6, hs7, hs8, hs18, hs39⟩
      refine CW.seq ?_
      refine CW.region ?_
      refine RW.soft Wd.a (v := .pointer (some ⟨b, 0, none⟩)) (by exact E.move (AF_ev rfl hs0)) ?_
      refine RW.soft Wd.a (v := .int .i64 u) (by exact E.move (AF_ev rfl (up rfl hs2))) ?_
      refine RW.soft Wd.a (v := .pointer (some ⟨b, 0, none⟩)) (by exact E.nilCheck (a := ⟨b, 0, none⟩) (AF_ev rfl (up rfl tp))) ?_
      refine RW.soft Wd.a (v := .pointer (some ⟨b, 1, none⟩)) (by exact E.fieldAddr (b := b) (o := 0) (f := { name := "Base", type := 3, offset := 1, embedded := false, tag := "", pkgPath := "", byteOffset := 8 }) (AF_ev rfl tp) Try.underlying106 rfl sz3 rfl) ?_
      refine RW.hard Wd.a ?_
      refine H.store (b := b) (o := 1) (v := .int .i64 u) (c' := #[.int .i64 k, .int .i64 u, .slice X8 es.length c9]) (AF_ev rfl tp) (AF_ev rfl (up rfl (up rfl tp))) hst (.there .here) sz3 (by simp [Value.cells]) (by simp [Value.cells, Value.oneCell']) rfl fun w hst => ?_
      refine RW.fin (fun τ => τ 0 = .pointer (some ⟨b, 0, none⟩) ∧ τ 1 = .int .i64 k ∧ τ 2 = .int .i64 u ∧ τ 6 = .int .i64 0 ∧ τ 7 = .int .i64 (termT i t (ts es) k) ∧ τ 8 = .int .i64 (termE i (ts es) k) ∧ τ 18 = .bool false ∧ τ 39 = .bool true) ⟨u0 (up rfl (up rfl (up rfl (up rfl hs0)))), u0 (up rfl (up rfl (up rfl (up rfl hs1)))), u0 (up rfl (up rfl (up rfl (up rfl hs2)))), u0 (up rfl (up rfl (up rfl (up rfl hs6)))), u0 (up rfl (up rfl (up rfl (up rfl hs7)))), u0 (up rfl (up rfl (up rfl (up rfl hs8)))), u0 (up rfl (up rfl (up rfl (up rfl hs18)))), u0 (up rfl (up rfl (up rfl (up rfl hs39))))⟩ ?_
      rintro τ ⟨hs0, hs1, hs2, hs6, hs7, hs8, hs18, hs39⟩
      refine CW.seq ?_
      refine CW.region ?_
      refine RW.soft Wd.a (v := .int .i64 0) (by exact E.assign rfl) ?_
      refine RW.fin (fun τ => τ 0 = .pointer (some ⟨b, 0, none⟩) ∧ τ 1 = .int .i64 k ∧ τ 2 = .int .i64 u ∧ τ 6 = .int .i64 0 ∧ τ 7 = .int .i64 (termT i t (ts es) k) ∧ τ 8 = .int .i64 (termE i (ts es) k) ∧ τ 18 = .bool false ∧ τ 39 = .bool true) ⟨up rfl hs0, up rfl hs1, up rfl hs2, tp, up rfl hs7, up rfl hs8, up rfl hs18, up rfl hs39⟩ ?_
      rintro τ ⟨hs0, hs1, hs2, hs6, hs7, hs8, hs18, hs39⟩
      refine CW.ret ?_
      refine ret1 (v := .int .i64 0) rfl (by exact (.tmp (AF_ev rfl hs6) .nil)) ?_
      have hst := hst.take (.there .here)
      have hst := (hst.take (.there (.there .here))).drop
      refine ⟨rfl, ?_⟩
      rw [hkp, if_pos rfl, show (k - i).toNat = 0 by omega]
      exact refClose (by omega) hn hE hst
  · have hc3_ := hc3
    try simp only [decide_eq_true_eq, decide_eq_false_iff_not, Bool.and_eq_true, Bool.or_eq_true, Bool.and_eq_false_iff, Bool.or_eq_false_iff, Bool.not_eq_true', Bool.not_eq_false', beq_iff_eq, beq_eq_false_iff_ne, bne_iff_ne, bne_eq_false_iff_eq, ne_eq, Int.not_lt, Int.not_le, gt_iff_lt, ge_iff_le] at hc3_
    have hkp : keepB i t (ts es) k u = false := hc3
    refine CW.region ?_
    refine RW.soft Wd.a (v := .pointer (some ⟨b, 0, none⟩)) (by exact E.move (AF_ev rfl hs0)) ?_
    refine RW.soft Wd.a (v := .pointer (some ⟨b, 0, none⟩)) (by exact E.nilCheck (a := ⟨b, 0, none⟩) (AF_ev rfl tp)) ?_
    refine RW.soft Wd.a (v := .pointer (some ⟨b, 2, none⟩)) (by exact E.fieldAddr (b := b) (o := 0) (f := { name := "L", type := 44, offset := 2, embedded := false, tag := "", pkgPath := "", byteOffset := 16 }) (AF_ev rfl tp) Try.underlying106 rfl sz44 rfl) ?_
    refine RW.hard Wd.a ?_
    refine H.store (b := b) (o := 2) (v := .slice none 0 0) (c' := #[.int .i64 i, .int .i64 t, .slice none 0 0]) (AF_ev rfl tp) rfl hst .here sz44 (by simp [Value.cells]) (by simp [Value.cells, Value.oneCell']) rfl fun w hst => ?_
    refine RW.fin (fun τ => τ 0 = .pointer (some ⟨b, 0, none⟩) ∧ τ 1 = .int .i64 k ∧ τ 2 = .int .i64 u ∧ τ 6 = .int .i64 0 ∧ τ 7 = .int .i64 (termT i t (ts es) k) ∧ τ 8 = .int .i64 (termE i (ts es) k) ∧ τ 18 = .bool false ∧ τ 39 = .bool false) ⟨u0 (up rfl (up rfl (up rfl hs0))), u0 (up rfl (up rfl (up rfl hs1))), u0 (up rfl (up rfl (up rfl hs2))), u0 (up rfl (up rfl (up rfl hs6))), u0 (up rfl (up rfl (up rfl hs7))), u0 (up rfl (up rfl (up rfl hs8))), u0 (up rfl (up rfl (up rfl hs18))), u0 (up rfl (up rfl (up rfl (Eq.trans hs39 (congrArg Value.bool hc3)))))⟩ ?_
    rintro τ ⟨hs0, hs1, hs2, hs6, hs7, hs8, hs18, hs39⟩
    refine CW.seq ?_
    refine CW.region ?_
    refine RW.soft Wd.a (v := .pointer (some ⟨b, 0, none⟩)) (by exact E.move (AF_ev rfl hs0)) ?_
    refine RW.soft Wd.a (v := .int .i64 k) (by exact E.move (AF_ev rfl (up rfl hs1))) ?_
    refine RW.soft Wd.a (v := .pointer (some ⟨b, 0, none⟩)) (by exact E.nilCheck (a := ⟨b, 0, none⟩) (AF_ev rfl (up rfl tp))) ?_
    refine RW.soft Wd.a (v := .pointer (some ⟨b, 0, none⟩)) (by exact E.fieldAddr (b := b) (o := 0) (f := { name := "Index", type := 3, offset := 0, embedded := false, tag := "", pkgPath := "", byteOffset := 0 }) (AF_ev rfl tp) Try.underlying106 rfl sz3 rfl) ?_
    refine RW.hard Wd.a ?_
    refine H.store (b := b) (o := 0) (v := .int .i64 k) (c' := #[.int .i64 k, .int .i64 t, .slice none 0 0]) (AF_ev rfl tp) (AF_ev rfl (up rfl (up rfl tp))) hst .here sz3 (by simp [Value.cells]) (by simp [Value.cells, Value.oneCell']) rfl fun w hst => ?_
    refine RW.fin (fun τ => τ 0 = .pointer (some ⟨b, 0, none⟩) ∧ τ 1 = .int .i64 k ∧ τ 2 = .int .i64 u ∧ τ 6 = .int .i64 0 ∧ τ 7 = .int .i64 (termT i t (ts es) k) ∧ τ 8 = .int .i64 (termE i (ts es) k) ∧ τ 18 = .bool false ∧ τ 39 = .bool false) ⟨u0 (up rfl (up rfl (up rfl (up rfl hs0)))), u0 (up rfl (up rfl (up rfl (up rfl hs1)))), u0 (up rfl (up rfl (up rfl (up rfl hs2)))), u0 (up rfl (up rfl (up rfl (up rfl hs6)))), u0 (up rfl (up rfl (up rfl (up rfl hs7)))), u0 (up rfl (up rfl (up rfl (up rfl hs8)))), u0 (up rfl (up rfl (up rfl (up rfl hs18)))), u0 (up rfl (up rfl (up rfl (up rfl hs39))))⟩ ?_
    rintro τ ⟨hs0, hs1, hs2, hs6, hs7, hs8, hs18, hs39⟩
    refine CW.seq ?_
    refine CW.region ?_
    refine RW.soft Wd.a (v := .pointer (some ⟨b, 0, none⟩)) (by exact E.move (AF_ev rfl hs0)) ?_
    refine RW.soft Wd.a (v := .int .i64 u) (by exact E.move (AF_ev rfl (up rfl hs2))) ?_
    refine RW.soft Wd.a (v := .pointer (some ⟨b, 0, none⟩)) (by exact E.nilCheck (a := ⟨b, 0, none⟩) (AF_ev rfl (up rfl tp))) ?_
    refine RW.soft Wd.a (v := .pointer (some ⟨b, 1, none⟩)) (by exact E.fieldAddr (b := b) (o := 0) (f := { name := "Base", type := 3, offset := 1, embedded := false, tag := "", pkgPath := "", byteOffset := 8 }) (AF_ev rfl tp) Try.underlying106 rfl sz3 rfl) ?_
    refine RW.hard Wd.a ?_
    refine H.store (b := b) (o := 1) (v := .int .i64 u) (c' := #[.int .i64 k, .int .i64 u, .slice none 0 0]) (AF_ev rfl tp) (AF_ev rfl (up rfl (up rfl tp))) hst .here sz3 (by simp [Value.cells]) (by simp [Value.cells, Value.oneCell']) rfl fun w hst => ?_
    refine RW.fin (fun τ => τ 0 = .pointer (some ⟨b, 0, none⟩) ∧ τ 1 = .int .i64 k ∧ τ 2 = .int .i64 u ∧ τ 6 = .int .i64 0 ∧ τ 7 = .int .i64 (termT i t (ts es) k) ∧ τ 8 = .int .i64 (termE i (ts es) k) ∧ τ 18 = .bool false ∧ τ 39 = .bool false) ⟨u0 (up rfl (up rfl (up rfl (up rfl hs0)))), u0 (up rfl (up rfl (up rfl (up rfl hs1)))), u0 (up rfl (up rfl (up rfl (up rfl hs2)))), u0 (up rfl (up rfl (up rfl (up rfl hs6)))), u0 (up rfl (up rfl (up rfl (up rfl hs7)))), u0 (up rfl (up rfl (up rfl (up rfl hs8)))), u0 (up rfl (up rfl (up rfl (up rfl hs18)))), u0 (up rfl (up rfl (up rfl (up rfl hs39))))⟩ ?_
    rintro τ ⟨hs0, hs1, hs2, hs6, hs7, hs8, hs18, hs39⟩
    refine CW.seq ?_
    refine CW.region ?_
    refine RW.soft Wd.a (v := .int .i64 0) (by exact E.assign rfl) ?_
    refine RW.fin (fun τ => τ 0 = .pointer (some ⟨b, 0, none⟩) ∧ τ 1 = .int .i64 k ∧ τ 2 = .int .i64 u ∧ τ 6 = .int .i64 0 ∧ τ 7 = .int .i64 (termT i t (ts es) k) ∧ τ 8 = .int .i64 (termE i (ts es) k) ∧ τ 18 = .bool false ∧ τ 39 = .bool false) ⟨up rfl hs0, up rfl hs1, up rfl hs2, tp, up rfl hs7, up rfl hs8, up rfl hs18, up rfl hs39⟩ ?_
    rintro τ ⟨hs0, hs1, hs2, hs6, hs7, hs8, hs18, hs39⟩
    refine CW.ret ?_
    refine ret1 (v := .int .i64 0) rfl (by exact (.tmp (AF_ev rfl hs6) .nil)) ?_
    have hst := (hst.take (.there .here)).drop
    have hst := (hst.ownNil (e := 58) (sz := 4) none).take (.there .here)
    refine ⟨rfl, ?_⟩
    rw [hkp, if_neg Bool.false_ne_true]
    exact refClose (by omega) (by simp) EsOk.nil hst

theorem ref_From {p : Pers} {w : World} {R : List Assn} {b : Nat} {i t : Int} {es : List Ent} (a most : Int) (hk : -9223372036854775808 ≤ a ∧ a ≤ 1099511627776) (hst : St p w (RefB p b i t es :: R)) :
    Calls Try.prog 57 #[.pointer (some ⟨b, 0, none⟩), .int .i64 a, .int .i64 most] w fun e w => ∃ v, e = .returned v ∧ St p w (Own 58 4 v (fromL i es a most).length (flat (fromL i es a most)) :: RefB p b i t es :: R) := by
  obtain ⟨X, c, hi, hn, hE, hcc, hX, hst⟩ := refOpen hst
  refine enter Try.func57 rfl (by simp) (n := 45) rfl fun τ hτ => ?_
  have hs0 : τ 0 = .pointer (some ⟨b, 0, none⟩) := hτ 0 (by simp)
  have hs1 : τ 1 = .int .i64 a := hτ 1 (by simp)
  have hs2 : τ 2 = .int .i64 most := hτ 2 (by simp)
  clear hτ
  refine CW.seq ?_
  refine CW.region ?_
  refine RW.soft Wd.a (v := .slice none 0 0) (by exact E.assign rfl) ?_
  refine RW.fin (fun τ => τ 0 = .pointer (some ⟨b, 0, none⟩) ∧ τ 1 = .int .i64 a ∧ τ 2 = .int .i64 most ∧ τ 6 = .slice none 0 0) ⟨up rfl hs0, up rfl hs1, up rfl hs2, tp⟩ ?_
  rintro τ ⟨hs0, hs1, hs2, hs6⟩
  refine CW.seq ?_
  refine CW.region ?_
  refine RW.soft Wd.a (v := .slice none 0 0) (by exact E.assign rfl) ?_
  refine RW.fin (fun τ => τ 0 = .pointer (some ⟨b, 0, none⟩) ∧ τ 1 = .int .i64 a ∧ τ 2 = .int .i64 most ∧ τ 6 = .slice none 0 0 ∧ τ 7 = .slice none 0 0) ⟨up rfl hs0, up rfl hs1, up rfl hs2, up rfl hs6, tp⟩ ?_
  rintro τ ⟨hs0, hs1, hs2, hs6, hs7⟩
  refine CW.seq ?_
  refine CW.seq ?_
  refine CW.region ?_
  refine RW.soft Wd.a (v := .int .i64 a) (by exact E.move (AF_ev rfl hs1)) ?_
  refine RW.soft Wd.a (v := .pointer (some ⟨b, 0, none⟩)) (by exact E.move (AF_ev rfl (up rfl hs0))) ?_
  refine RW.soft Wd.a (v := .pointer (some ⟨b, 0, none⟩)) (by exact E.nilCheck (a := ⟨b, 0, none⟩) (AF_ev rfl tp)) ?_
  refine RW.soft Wd.a (v := .pointer (some ⟨b, 0, none⟩)) (by exact E.fieldAddr (b := b) (o := 0) (f := { name := "Index", type := 3, offset := 0, embedded := false, tag := "", pkgPath := "", byteOffset := 0 }) (AF_ev rfl tp) Try.underlying106 rfl sz3 rfl) ?_
  refine RW.soft Wd.a (v := .int .i64 i) (by exact E.load (a := ⟨b, 0, none⟩) Try.underlying3 rfl (AF_ev rfl tp) (hst.cell .here rfl)) ?_
  refine RW.soft Wd.a (v := .int .i64 (i + 1)) (by exact E.add (k := .i64) (a := i) (b := 1) (AF_ev rfl tp) rfl (show IntKind.i64.wrap (i + 1) = i + 1 from (by rw [IntWalk.i64_in _ (by omega)]))) ?_
  refine RW.soft Wd.a (v := .int .i64 (max a (i + 1))) (by exact E.max (k := .i64) (a := a) (b := i + 1) (AF_ev rfl (up rfl (up rfl (up rfl (up rfl (up rfl tp)))))) (AF_ev rfl tp) (by rw [Int.max_def]; split <;> split <;> omega)) ?_
  refine RW.soft Wd.a (v := .int .i64 (max a (i + 1))) (by exact E.assign (AF_ev rfl tp)) ?_
  refine RW.fin (fun τ => τ 0 = .pointer (some ⟨b, 0, none⟩) ∧ τ 1 = .int .i64 a ∧ τ 2 = .int .i64 most ∧ τ 6 = .slice none 0 0 ∧ τ 7 = .slice none 0 0 ∧ τ 8 = .int .i64 (max a (i + 1))) ⟨up rfl (up rfl (up rfl (up rfl (up rfl (up rfl (up rfl (up rfl hs0))))))), up rfl (up rfl (up rfl (up rfl (up rfl (up rfl (up rfl (up rfl hs1))))))), up rfl (up rfl (up rfl (up rfl (up rfl (up rfl (up rfl (up rfl hs2))))))), up rfl (up rfl (up rfl (up rfl (up rfl (up rfl (up rfl (up rfl hs6))))))), up rfl (up rfl (up rfl (up rfl (up rfl (up rfl (up rfl (up rfl hs7))))))), tp⟩ ?_
  rintro τ ⟨hs0, hs1, hs2, hs6, hs7, hs8⟩
  refine CW.block ?_
  have hst : St p w (Own 58 4 (.slice none 0 0) 0 (flat ((es.drop (max a (i + 1) - (i + 1)).toNat).take 0)) :: pt b (.cells #[.int .i64 i, .int .i64 t, .slice X es.length c] 106) :: Own 58 4 (.slice X es.length c) es.length (flat es) :: R) := by rw [List.take_zero]; exact hst.ownNil none
  refine CW.loop (fun (k : Nat) (τ : Fr) (w : World) => ∃ (j : Nat) (V : Option Addr) (cv : Nat), (j = 0 ∨ (max a (i + 1) + (j : Int) ≤ i + ((es.length : Nat) : Int) + 1 ∧ (j : Int) ≤ most)) ∧ j ≤ es.length ∧ k = es.length - j ∧ τ 0 = .pointer (some ⟨b, 0, none⟩) ∧ τ 2 = .int .i64 most ∧ τ 7 = .slice V j cv ∧ τ 8 = .int .i64 (max a (i + 1) + ((j : Nat) : Int)) ∧ St p w (Own 58 4 (.slice V j cv) j (flat ((es.drop (max a (i + 1) - (i + 1)).toNat).take j)) :: pt b (.cells #[.int .i64 i, .int .i64 t, .slice X es.length c] 106) :: Own 58 4 (.slice X es.length c) es.length (flat es) :: R)) (es.length - 0) ⟨0, none, 0, .inl rfl, by omega, rfl, hs0, hs2, hs7, (int_eq (a := max a (i + 1)) hs8 (by omega)), hst⟩ ?_
  clear hst
  rintro k τ w ⟨j, V, cv, hj, hje, hkj, hs0, hs2, hs7, hs8, hst⟩
  refine CW.seq ?_
  refine CW.seq ?_
  refine Or.elim (Bool.eq_false_or_eq_true (decide ((max a (i + 1) + ((j : Nat) : Int)) ≤ (i + ((es.length : Nat) : Int))))) (fun hj1 => ?_) (fun hj1 => ?_)
  · skip
    refine Or.elim (Bool.eq_false_or_eq_true (decide (((j : Nat) : Int) < most))) (fun hj2 => ?_) (fun hj2 => ?_)
    · skip
      refine CW.region ?_
      refine RW.soft Wd.a (v := .int .i64 (max a (i + 1) + ((j : Nat) : Int))) (by exact E.move (AF_ev rfl hs8)) ?_
      refine RW.soft Wd.a (v := .pointer (some ⟨b, 0, none⟩)) (by exact E.move (AF_ev rfl (up rfl hs0))) ?_
      have hst := hst.take (.there .here)
      refine RW.hard Wd.a ?_
      refine H.call0 Try.func58 nm58 rfl (map1 (AF_ev rfl tp)) (Calls.mono (ref_Last (by omega) (by omega) hst) ?_)
      rintro _ w ⟨rfl, hst⟩
      refine ⟨_, rfl, ?_⟩
      show RW _ _ _ _ _ _ _
      refine RW.soft Wd.a (v := .bool true) (by exact E.b (a := decide ((max a (i + 1) + ((j : Nat) : Int)) ≤ (i + ((es.length : Nat) : Int)))) (E.leq (k := .i64) (a := max a (i + 1) + ((j : Nat) : Int)) (b := i + ((es.length : Nat) : Int)) (AF_ev rfl (up rfl (up rfl tp))) (AF_ev rfl tp)) hj1) ?_
      refine RW.soft Wd.a (v := .bool true) (by exact E.move (AF_ev rfl tp)) ?_
      refine RW.soft (by exact Wd.yes (x := 20) rfl (AF_ev rfl tp)) (v := .slice V j cv) (by exact E.move (AF_ev rfl (up rfl (up rfl (up rfl (up rfl (up rfl hs7))))))) ?_
      refine RW.soft (by exact Wd.yes (x := 20) rfl (AF_ev rfl (up rfl tp))) (v := .int .i64 ((j : Nat) : Int)) (by exact E.lenS (p := V) (l := j) (c := cv) Try.underlying44 (AF_ev rfl tp)) ?_
      refine RW.soft (by exact Wd.yes (x := 20) rfl (AF_ev rfl (up rfl (up rfl tp)))) (v := .int .i64 most) (by exact E.move (AF_ev rfl (up rfl (up rfl (up rfl (up rfl (up rfl (up rfl (up rfl hs2))))))))) ?_
      refine RW.soft (by exact Wd.yes (x := 20) rfl (AF_ev rfl (up rfl (up rfl (up rfl tp))))) (v := .bool true) (by exact E.b (a := decide (((j : Nat) : Int) < most)) (E.lss (k := .i64) (a := ((j : Nat) : Int)) (b := most) (AF_ev rfl (up rfl tp)) (AF_ev rfl tp)) hj2) ?_
      refine RW.soft Wd.a (v := .bool true) (by exact E.pickT (AF_ev rfl (up rfl (up rfl (up rfl (up rfl tp))))) (AF_ev rfl tp)) ?_
      refine RW.fin (fun τ => τ 0 = .pointer (some ⟨b, 0, none⟩) ∧ τ 2 = .int .i64 most ∧ τ 7 = .slice V j cv ∧ τ 8 = .int .i64 (max a (i + 1) + ((j : Nat) : Int)) ∧ τ 25 = .bool true) ⟨up rfl (up rfl (up rfl (up rfl (up rfl (up rfl (up rfl (up rfl (up rfl (up rfl hs0))))))))), up rfl (up rfl (up rfl (up rfl (up rfl (up rfl (up rfl (up rfl (up rfl (up rfl hs2))))))))), up rfl (up rfl (up rfl (up rfl (up rfl (up rfl (up rfl (up rfl (up rfl (up rfl hs7))))))))), up rfl (up rfl (up rfl (up rfl (up rfl (up rfl (up rfl (up rfl (up rfl (up rfl hs8))))))))), tp⟩ ?_
      rintro τ ⟨hs0, hs2, hs7, hs8, hs25⟩
      refine CW.condT (AF_ev rfl hs25) ?_
      refine CW.skip ?_
      refine Th.n ?_
      refine CW.seq ?_
      refine CW.block ?_
      have hj1_ := of_decide_eq_true hj1
      have hj2_ := of_decide_eq_true hj2
      obtain ⟨g, rfl⟩ := hX (by omega)
      obtain ⟨x, hx⟩ : ∃ x, es[(max a (i + 1) + ((j : Nat) : Int) - i - 1).toNat]? = some x := ⟨_, List.getElem?_eq_getElem (by omega)⟩
      have hxd : (es.drop (max a (i + 1) - (i + 1)).toNat)[j]? = some x := by rw [List.getElem?_drop, ← hx]; congr 1; omega
      refine CW.regionD [0, 1, 2, 3, 4, 5, 6, 7, 8, 9, 10, 11, 12, 13] (fun w => w.cell? ⟨b, 2, none⟩ = some (.slice (some ⟨g, 0, none⟩) es.length c) ∧ w.cell? ⟨b, 0, none⟩ = some (.int .i64 i) ∧ (∀ j_ v_, (x.enc : List Value)[j_]? = some v_ → w.cell? ⟨g, (max a (i + 1) + ((j : Nat) : Int) - i - 1).toNat * 4 + j_, none⟩ = some v_)) mixed ?_
      have hst := hst.drew
      generalize w.drew = w at hst ⊢
      have hS : w.cell? ⟨b, 2, none⟩ = some (.slice (some ⟨g, 0, none⟩) es.length c) ∧ w.cell? ⟨b, 0, none⟩ = some (.int .i64 i) ∧ (∀ j_ v_, (x.enc : List Value)[j_]? = some v_ → w.cell? ⟨g, (max a (i + 1) + ((j : Nat) : Int) - i - 1).toNat * 4 + j_, none⟩ = some v_) := ⟨hst.cell .here rfl, hst.cell .here rfl, (fun j u hu => hst.ocell (.there (.there .here)) (flat_get Ent.enc_len hx hu))⟩
      refine RD.take 0 rfl (by kernel_rfl) Wd.a (v := .slice V j cv) (fun w hS => by exact E.move (AF_ev rfl hs7)) hS ?_
      refine RD.take 1 rfl (by kernel_rfl) Wd.a (v := .pointer (some ⟨b, 0, none⟩)) (fun w hS => by exact E.move (AF_ev rfl (up rfl hs0))) hS ?_
      refine RD.take 2 rfl (by kernel_rfl) Wd.a (v := .pointer (some ⟨b, 0, none⟩)) (fun w hS => by exact E.nilCheck (a := ⟨b, 0, none⟩) (AF_ev rfl tp)) hS ?_
      refine RD.take 3 rfl (by kernel_rfl) Wd.a (v := .pointer (some ⟨b, 2, none⟩)) (fun w hS => by exact E.fieldAddr (b := b) (o := 0) (f := { name := "L", type := 44, offset := 2, embedded := false, tag := "", pkgPath := "", byteOffset := 16 }) (AF_ev rfl tp) Try.underlying106 rfl sz44 rfl) hS ?_
      refine RD.take 4 rfl (by kernel_rfl) Wd.a (v := .slice (some ⟨g, 0, none⟩) es.length c) (fun w hS => by exact E.load (a := ⟨b, 2, none⟩) Try.underlying44 rfl (AF_ev rfl tp) hS.1) hS ?_
      refine RD.take 5 rfl (by kernel_rfl) Wd.a (v := .int .i64 (max a (i + 1) + ((j : Nat) : Int))) (fun w hS => by exact E.move (AF_ev rfl (up rfl (up rfl (up rfl (up rfl (up rfl hs8))))))) hS ?_
      refine RD.take 6 rfl (by kernel_rfl) Wd.a (v := .pointer (some ⟨b, 0, none⟩)) (fun w hS => by exact E.move (AF_ev rfl (up rfl (up rfl (up rfl (up rfl (up rfl (up rfl hs0)))))))) hS ?_
      refine RD.take 7 rfl (by kernel_rfl) Wd.a (v := .pointer (some ⟨b, 0, none⟩)) (fun w hS => by exact E.nilCheck (a := ⟨b, 0, none⟩) (AF_ev rfl tp)) hS ?_
      refine RD.take 8 rfl (by kernel_rfl) Wd.a (v := .pointer (some ⟨b, 0, none⟩)) (fun w hS => by exact E.fieldAddr (b := b) (o := 0) (f := { name := "Index", type := 3, offset := 0, embedded := false, tag := "", pkgPath := "", byteOffset := 0 }) (AF_ev rfl tp) Try.underlying106 rfl sz3 rfl) hS ?_
      refine RD.take 9 rfl (by kernel_rfl) Wd.a (v := .int .i64 i) (fun w hS => by exact E.load (a := ⟨b, 0, none⟩) Try.underlying3 rfl (AF_ev rfl tp) hS.2.1) hS ?_
      refine RD.take 10 rfl (by kernel_rfl) Wd.a (v := .int .i64 (max a (i + 1) + ((j : Nat) : Int) - i)) (fun w hS => by exact E.sub (k := .i64) (a := max a (i + 1) + ((j : Nat) : Int)) (b := i) (AF_ev rfl (up rfl (up rfl (up rfl (up rfl tp))))) (AF_ev rfl tp) (show IntKind.i64.wrap ((max a (i + 1) + ((j : Nat) : Int)) - i) = max a (i + 1) + ((j : Nat) : Int) - i from (by rw [IntWalk.i64_in _ (by omega)] <;> omega))) hS ?_
      refine RD.take 11 rfl (by kernel_rfl) Wd.a (v := .int .i64 (max a (i + 1) + ((j : Nat) : Int) - i - 1)) (fun w hS => by exact E.sub (k := .i64) (a := max a (i + 1) + ((j : Nat) : Int) - i) (b := 1) (AF_ev rfl tp) rfl (show IntKind.i64.wrap ((max a (i + 1) + ((j : Nat) : Int) - i) - 1) = max a (i + 1) + ((j : Nat) : Int) - i - 1 from (by rw [IntWalk.i64_in _ (by omega)] <;> omega))) hS ?_
      refine RD.take 12 rfl (by kernel_rfl) Wd.a (v := .pointer (some ⟨g, (max a (i + 1) + ((j : Nat) : Int) - i - 1).toNat * 4, none⟩)) (fun w hS => by exact E.indexAddr (b := g) (o := 0) (l := es.length) (c := c) (i := max a (i + 1) + ((j : Nat) : Int) - i - 1) Try.underlying44 sz58 (AF_ev rfl (up rfl (up rfl (up rfl (up rfl (up rfl (up rfl (up rfl tp)))))))) (AF_ev rfl tp) (by omega) (by omega) (by simp)) hS ?_
      refine RD.take 13 rfl (by kernel_rfl) Wd.a (v := .agg #[.int .i64 x.term, .int .i64 x.kind, .slice x.X x.ns.length x.xc, .slice x.Y x.ms.length x.yc]) (fun w hS => by exact E.loadN (cs := x.enc) Try.underlying58 rfl sz58 (AF_ev rfl tp) rfl hS.2.2) hS ?_
      refine RD.only 14 rfl (by kernel_rfl) Wd.a ?_
      refine H.buildSlice (e := 58) (cs := #[.int .i64 x.term, .int .i64 x.kind, .slice x.X x.ns.length x.xc, .slice x.Y x.ms.length x.yc]) (vs := #[(0, .agg #[.int .i64 x.term, .int .i64 x.kind, .slice x.X x.ns.length x.xc, .slice x.Y x.ms.length x.yc])]) (bld1 (AF_ev rfl tp)) (fun _ => by kernel_rfl) hst fun b1 w hst => ?_
      have hS : w.cell? ⟨b, 2, none⟩ = some (.slice (some ⟨g, 0, none⟩) es.length c) ∧ w.cell? ⟨b, 0, none⟩ = some (.int .i64 i) ∧ (∀ j_ v_, (x.enc : List Value)[j_]? = some v_ → w.cell? ⟨g, (max a (i + 1) + ((j : Nat) : Int) - i - 1).toNat * 4 + j_, none⟩ = some v_) := ⟨hst.cell (.there .here) rfl, hst.cell (.there .here) rfl, (fun j u hu => hst.ocell (.there (.there (.there .here))) (flat_get Ent.enc_len hx hu))⟩
      refine ⟨fun _ => hS, ?_⟩
      refine RD.only 15 rfl (by kernel_rfl) Wd.a ?_
      refine H.append2 (n2 := j + 1) (xs2 := (flat ((es.drop (max a (i + 1) - (i + 1)).toNat).take j)) ++ ([.int .i64 x.term, .int .i64 x.kind, .slice x.X x.ns.length x.xc, .slice x.Y x.ms.length x.yc])) (by first | rfl | simp) (by first | rfl | simp) (m := 1) (news := [.int .i64 x.term, .int .i64 x.kind, .slice x.X x.ns.length x.xc, .slice x.Y x.ms.length x.yc]) (s0 := .slice V j cv) (x0 := .slice (some ⟨b1, 0, none⟩) 1 1) Try.underlying44 inf58 rfl (AF_ev rfl (up rfl (up rfl (up rfl (up rfl (up rfl (up rfl (up rfl (up rfl (up rfl (up rfl (up rfl (up rfl (up rfl (up rfl tp))))))))))))))) (AF_ev rfl tp) hst (.there (.there .here)) ⟨rfl, _, _, rfl, by omega, .inr ⟨_, 0, rfl, hst.cellsIn .here rfl⟩⟩ (by simp [Value.oneCell']) (by omega) (by simp only [maxLen]; omega) ?_
      intro vX2 w hnilX2 hst
      obtain ⟨X2, c3, rfl, hcX2, hmX2, hlX2, hbX2⟩ := hst.shape
      have hS : w.cell? ⟨b, 2, none⟩ = some (.slice (some ⟨g, 0, none⟩) es.length c) ∧ w.cell? ⟨b, 0, none⟩ = some (.int .i64 i) ∧ (∀ j_ v_, (x.enc : List Value)[j_]? = some v_ → w.cell? ⟨g, (max a (i + 1) + ((j : Nat) : Int) - i - 1).toNat * 4 + j_, none⟩ = some v_) := ⟨hst.cell (.there (.there .here)) rfl, hst.cell (.there (.there .here)) rfl, (fun j u hu => hst.ocell (.there (.there (.there .here))) (flat_get Ent.enc_len hx hu))⟩
      refine ⟨fun _ => hS, ?_⟩
      refine RD.only 16 rfl (by kernel_rfl) Wd.a (Hd.value (v := .slice X2 (j + 1) c3) (by exact E.assign (AF_ev rfl tp)) ⟨fun h => Bool.noConfusion ((show needs _ _ _ = false by kernel_rfl).symm.trans h), ?_⟩)
      refine RD.done (by kernel_rfl) ?_
      refine Bl.n ?_
      refine Th.n ?_
      refine CW.region ?_
      refine RW.soft Wd.a (v := .int .i64 (max a (i + 1) + ((j : Nat) : Int))) (by exact E.move (AF_ev rfl (up rfl (up rfl (up rfl (up rfl (up rfl (up rfl (up rfl (up rfl (up rfl (up rfl (up rfl (up rfl (up rfl (up rfl (up rfl (up rfl (up rfl hs8))))))))))))))))))) ?_
      refine RW.soft Wd.a (v := .int .i64 (max a (i + 1) + ((j : Nat) : Int) + 1)) (by exact E.add (k := .i64) (a := max a (i + 1) + ((j : Nat) : Int)) (b := 1) (AF_ev rfl tp) rfl (show IntKind.i64.wrap ((max a (i + 1) + ((j : Nat) : Int)) + 1) = max a (i + 1) + ((j : Nat) : Int) + 1 from (by rw [IntWalk.i64_in _ (by omega)] <;> omega))) ?_
      refine RW.soft Wd.a (v := .int .i64 (max a (i + 1) + ((j : Nat) : Int) + 1)) (by exact E.assign (AF_ev rfl tp)) ?_
      refine RW.nil ?_
      refine Th.n ?_
      have hst := hst.take (.there (.there (.there .here)))
      have hst := hst.take (.there (.there (.there .here)))
      have hst := hst.take (.there (.there .here))
      have hst := (hst.take (.there (.there (.there .here)))).drop
      have hst : St p w (Own 58 4 (.slice X2 (j + 1) c3) (j + 1) (flat ((es.drop (max a (i + 1) - (i + 1)).toNat).take (j + 1))) :: pt b (.cells #[.int .i64 i, .int .i64 t, .slice (some ⟨g, 0, none⟩) es.length c] 106) :: Own 58 4 (.slice (some ⟨g, 0, none⟩) es.length c) es.length (flat es) :: R) := by rw [List.take_add_one, hxd, flat_append]; exact hst
      have hst := hst.take (.there (.there .here))
      have hst := hst.take (.there (.there .here))
      have hst := hst.take (.there (.there .here))
      exact ⟨es.length - (j + 1), by omega, j + 1, X2, c3, (by omega), (by omega), (by omega), up rfl (up rfl (up rfl (up rfl (up rfl (up rfl (up rfl (up rfl (up rfl (up rfl (up rfl (up rfl (up rfl (up rfl (up rfl (up rfl (up rfl (up rfl (up rfl (up rfl hs0))))))))))))))))))), up rfl (up rfl (up rfl (up rfl (up rfl (up rfl (up rfl (up rfl (up rfl (up rfl (up rfl (up rfl (up rfl (up rfl (up rfl (up rfl (up rfl (up rfl (up rfl (up rfl hs2))))))))))))))))))), up rfl (up rfl (up rfl tp)), (int_eq (a := max a (i + 1) + ((j : Nat) : Int) + 1) tp (by omega)), hst⟩
    · skip
      refine CW.region ?_
      refine RW.soft Wd.a (v := .int .i64 (max a (i + 1) + ((j : Nat) : Int))) (by exact E.move (AF_ev rfl hs8)) ?_
      refine RW.soft Wd.a (v := .pointer (some ⟨b, 0, none⟩)) (by exact E.move (AF_ev rfl (up rfl hs0))) ?_
      have hst := hst.take (.there .here)
      refine RW.hard Wd.a ?_
      refine H.call0 Try.func58 nm58 rfl (map1 (AF_ev rfl tp)) (Calls.mono (ref_Last (by omega) (by omega) hst) ?_)
      rintro _ w ⟨rfl, hst⟩
      refine ⟨_, rfl, ?_⟩
      show RW _ _ _ _ _ _ _
      refine RW.soft Wd.a (v := .bool true) (by exact E.b (a := decide ((max a (i + 1) + ((j : Nat) : Int)) ≤ (i + ((es.length : Nat) : Int)))) (E.leq (k := .i64) (a := max a (i + 1) + ((j : Nat) : Int)) (b := i + ((es.length : Nat) : Int)) (AF_ev rfl (up rfl (up rfl tp))) (AF_ev rfl tp)) hj1) ?_
      refine RW.soft Wd.a (v := .bool true) (by exact E.move (AF_ev rfl tp)) ?_
      refine RW.soft (by exact Wd.yes (x := 20) rfl (AF_ev rfl tp)) (v := .slice V j cv) (by exact E.move (AF_ev rfl (up rfl (up rfl (up rfl (up rfl (up rfl hs7))))))) ?_
      refine RW.soft (by exact Wd.yes (x := 20) rfl (AF_ev rfl (up rfl tp))) (v := .int .i64 ((j : Nat) : Int)) (by exact E.lenS (p := V) (l := j) (c := cv) Try.underlying44 (AF_ev rfl tp)) ?_
      refine RW.soft (by exact Wd.yes (x := 20) rfl (AF_ev rfl (up rfl (up rfl tp)))) (v := .int .i64 most) (by exact E.move (AF_ev rfl (up rfl (up rfl (up rfl (up rfl (up rfl (up rfl (up rfl hs2))))))))) ?_
      refine RW.soft (by exact Wd.yes (x := 20) rfl (AF_ev rfl (up rfl (up rfl (up rfl tp))))) (v := .bool false) (by exact E.b (a := decide (((j : Nat) : Int) < most)) (E.lss (k := .i64) (a := ((j : Nat) : Int)) (b := most) (AF_ev rfl (up rfl tp)) (AF_ev rfl tp)) hj2) ?_
      refine RW.soft Wd.a (v := .bool false) (by exact E.pickT (AF_ev rfl (up rfl (up rfl (up rfl (up rfl tp))))) (AF_ev rfl tp)) ?_
      refine RW.fin (fun τ => τ 0 = .pointer (some ⟨b, 0, none⟩) ∧ τ 2 = .int .i64 most ∧ τ 7 = .slice V j cv ∧ τ 8 = .int .i64 (max a (i + 1) + ((j : Nat) : Int)) ∧ τ 25 = .bool false) ⟨up rfl (up rfl (up rfl (up rfl (up rfl (up rfl (up rfl (up rfl (up rfl (up rfl hs0))))))))), up rfl (up rfl (up rfl (up rfl (up rfl (up rfl (up rfl (up rfl (up rfl (up rfl hs2))))))))), up rfl (up rfl (up rfl (up rfl (up rfl (up rfl (up rfl (up rfl (up rfl (up rfl hs7))))))))), up rfl (up rfl (up rfl (up rfl (up rfl (up rfl (up rfl (up rfl (up rfl (up rfl hs8))))))))), tp⟩ ?_
      rintro τ ⟨hs0, hs2, hs7, hs8, hs25⟩
      refine CW.condF (AF_ev rfl hs25) ?_
      refine CW.exit ?_
      refine Th.x ?_
      refine Th.x ?_
      refine Bl.x ?_
      refine Th.n ?_
      refine CW.seq ?_
      refine CW.region ?_
      refine RW.soft Wd.a (v := .slice V j cv) (by exact E.move (AF_ev rfl hs7)) ?_
      refine RW.soft Wd.a (v := .slice V j cv) (by exact E.assign (AF_ev rfl tp)) ?_
      refine RW.fin (fun τ => τ 0 = .pointer (some ⟨b, 0, none⟩) ∧ τ 2 = .int .i64 most ∧ τ 6 = .slice V j cv ∧ τ 7 = .slice V j cv ∧ τ 8 = .int .i64 (max a (i + 1) + ((j : Nat) : Int)) ∧ τ 25 = .bool false) ⟨up rfl (up rfl hs0), up rfl (up rfl hs2), tp, up rfl (up rfl hs7), up rfl (up rfl hs8), up rfl (up rfl hs25)⟩ ?_
      rintro τ ⟨hs0, hs2, hs6, hs7, hs8, hs25⟩
      refine CW.ret ?_
      refine ret1 (v := .slice V j cv) rfl (by exact (.tmp (AF_ev rfl hs6) .nil)) ?_
      have hst := hst.take (.there .here)
      have hst := hst.take (.there (.there .here))
      have hst := hst.take (.there (.there .here))
      have hend1 := of_decide_eq_true hj1
      have hend := of_decide_eq_false hj2
      have hl : fromL i es a most = ((es.drop (max a (i + 1) - (i + 1)).toNat).take j) := by
        unfold fromL
        by_cases hc : max a (i + 1) > i + (es.length : Nat) ∨ most < 1
        · rw [if_pos hc]
          obtain rfl : j = 0 := by omega
          rw [List.take_zero]
        · rw [if_neg hc]
          congr 1
          rw [List.length_drop]; omega
      have hlj : (fromL i es a most).length = j := by rw [hl, List.length_take, List.length_drop]; omega
      refine ⟨_, rfl, ?_⟩
      rw [hlj, hl]
      exact (refClose hi hn hE hst).take (.there .here)
  · skip
    refine CW.region ?_
    refine RW.soft Wd.a (v := .int .i64 (max a (i + 1) + ((j : Nat) : Int))) (by exact E.move (AF_ev rfl hs8)) ?_
    refine RW.soft Wd.a (v := .pointer (some ⟨b, 0, none⟩)) (by exact E.move (AF_ev rfl (up rfl hs0))) ?_
    have hst := hst.take (.there .here)
    refine RW.hard Wd.a ?_
    refine H.call0 Try.func58 nm58 rfl (map1 (AF_ev rfl tp)) (Calls.mono (ref_Last (by omega) (by omega) hst) ?_)
    rintro _ w ⟨rfl, hst⟩
    refine ⟨_, rfl, ?_⟩
    show RW _ _ _ _ _ _ _
    refine RW.soft Wd.a (v := .bool false) (by exact E.b (a := decide ((max a (i + 1) + ((j : Nat) : Int)) ≤ (i + ((es.length : Nat) : Int)))) (E.leq (k := .i64) (a := max a (i + 1) + ((j : Nat) : Int)) (b := i + ((es.length : Nat) : Int)) (AF_ev rfl (up rfl (up rfl tp))) (AF_ev rfl tp)) hj1) ?_
    refine RW.soft Wd.a (v := .bool false) (by exact E.move (AF_ev rfl tp)) ?_
    refine RW.pass (by exact Wd.no (x := 20) (b := false) rfl (AF_ev rfl tp) rfl) ?_
    refine RW.pass (by exact Wd.no (x := 20) (b := false) rfl (AF_ev rfl (up rfl tp)) rfl) ?_
    refine RW.pass (by exact Wd.no (x := 20) (b := false) rfl (AF_ev rfl (up rfl (up rfl tp))) rfl) ?_
    refine RW.pass (by exact Wd.no (x := 20) (b := false) rfl (AF_ev rfl (up rfl (up rfl (up rfl tp)))) rfl) ?_
    refine RW.soft Wd.a (v := .bool false) (by exact E.pickF (AF_ev rfl (up rfl (up rfl (up rfl (up rfl tp))))) rfl) ?_
    refine RW.fin (fun τ => τ 0 = .pointer (some ⟨b, 0, none⟩) ∧ τ 2 = .int .i64 most ∧ τ 7 = .slice V j cv ∧ τ 8 = .int .i64 (max a (i + 1) + ((j : Nat) : Int)) ∧ τ 25 = .bool false) ⟨up rfl (up rfl (up rfl (up rfl (up rfl (up rfl (up rfl (up rfl (up rfl (up rfl hs0))))))))), up rfl (up rfl (up rfl (up rfl (up rfl (up rfl (up rfl (up rfl (up rfl (up rfl hs2))))))))), up rfl (up rfl (up rfl (up rfl (up rfl (up rfl (up rfl (up rfl (up rfl (up rfl hs7))))))))), up rfl (up rfl (up rfl (up rfl (up rfl (up rfl (up rfl (up rfl (up rfl (up rfl hs8))))))))), tp⟩ ?_
    rintro τ ⟨hs0, hs2, hs7, hs8, hs25⟩
    refine CW.condF (AF_ev rfl hs25) ?_
    refine CW.exit ?_
    refine Th.x ?_
    refine Th.x ?_
    refine Bl.x ?_
    refine Th.n ?_
    refine CW.seq ?_
    refine CW.region ?_
    refine RW.soft Wd.a (v := .slice V j cv) (by exact E.move (AF_ev rfl hs7)) ?_
    refine RW.soft Wd.a (v := .slice V j cv) (by exact E.assign (AF_ev rfl tp)) ?_
    refine RW.fin (fun τ => τ 0 = .pointer (some ⟨b, 0, none⟩) ∧ τ 2 = .int .i64 most ∧ τ 6 = .slice V j cv ∧ τ 7 = .slice V j cv ∧ τ 8 = .int .i64 (max a (i + 1) + ((j : Nat) : Int)) ∧ τ 25 = .bool false) ⟨up rfl (up rfl hs0), up rfl (up rfl hs2), tp, up rfl (up rfl hs7), up rfl (up rfl hs8), up rfl (up rfl hs25)⟩ ?_
    rintro τ ⟨hs0, hs2, hs6, hs7, hs8, hs25⟩
    refine CW.ret ?_
    refine ret1 (v := .slice V j cv) rfl (by exact (.tmp (AF_ev rfl hs6) .nil)) ?_
    have hst := hst.take (.there .here)
    have hst := hst.take (.there (.there .here))
    have hst := hst.take (.there (.there .here))
    have hend := of_decide_eq_false hj1
    have hl : fromL i es a most = ((es.drop (max a (i + 1) - (i + 1)).toNat).take j) := by
      unfold fromL
      by_cases hc : max a (i + 1) > i + (es.length : Nat) ∨ most < 1
      · rw [if_pos hc]
        obtain rfl : j = 0 := by omega
        rw [List.take_zero]
      · rw [if_neg hc]
        congr 1
        rw [List.length_drop]; omega
    have hlj : (fromL i es a most).length = j := by rw [hl, List.length_take, List.length_drop]; omega
    refine ⟨_, rfl, ?_⟩
    rw [hlj, hl]
    exact (refClose hi hn hE hst).take (.there .here)
end Go.Proofs.Ytdlcjoonhojpfaa
