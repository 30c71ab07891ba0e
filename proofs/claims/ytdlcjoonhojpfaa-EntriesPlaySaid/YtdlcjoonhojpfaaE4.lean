/- The calls of the package entries, walked through operation by operation. -/
import Derived.Test.YtdlcjoonhojpfaaE0
import Derived.Test.YtdlcjoonhojpfaaT1
import Derived.Test.YtdlcjoonhojpfaaE1
import Derived.Test.YtdlcjoonhojpfaaE2
import Derived.Test.YtdlcjoonhojpfaaE3
namespace Go.Proofs.Ytdlcjoonhojpfaa
open Go.RowKit Go.SL Go.E17
attribute [local irreducible] Go.SL.RW Go.SL.CW Go.SL.RD Go.SL.Hd Go.SL.St
set_option linter.unusedVariables false
set_option linter.unusedSimpArgs false

theorem nm67 : (Try.f67.name == "runtime.NumGoroutine") = false := by kernel_rfl
theorem nm69 : (Try.f69.name == "runtime.NumGoroutine") = false := by kernel_rfl

theorem joinL_len {α : Type} {i t idx tm : Int} {T U : List Int} {a b : List α} (ha : a.length = T.length) (hb : b.length = U.length) : (joinL i t T idx tm U a b).length ≤ a.length + b.length := by
  unfold joinL
  split
  · omega
  · split
    · omega
    · split
      · omega
      · rw [List.length_append, List.length_take, List.length_drop]; omega

theorem ent_Join {p : Pers} {w : World} {R : List Assn} {b : Nat} {i t : Int} {es : List Ent} {A : Assn} {XL : Option Addr} {cl : Nat} {l : List Ent} (idx tm : Int) (hidx : -9223372036854775808 ≤ idx ∧ idx ≤ 9223372036854775807) (hl : es.length + l.length ≤ 1000000) (hA : Tells p A 4 (.slice XL l.length cl) l.length (flat l)) (hEL : EsOk p l) (hst : St p w (LogB p b i t es :: A :: R)) :
    Calls Try.prog 29 #[.pointer (some ⟨b, 0, none⟩), .int .i64 idx, .int .i64 tm, .slice XL l.length cl] w fun e w => ∃ q es2, p.le q ∧ e = .returned (.tuple #[.int .i64 (joinA i t (ts es) idx tm (ts l)), .int .i64 (joinF i t (ts es) idx tm (ts l)), .bool (joinO i t (ts es) idx tm)]) ∧ vs es2 = joinL i t (ts es) idx tm (ts l) (vs es) (vs l) ∧ St q w (LogB q b i t es2 :: A :: R) := by
  obtain ⟨X, c, hi, hn, hE, hcc, hX, hst⟩ := logOpen hst
  refine enter Try.func29 rfl (by simp) (n := 89) rfl fun τ hτ => ?_
  have hs0 : τ 0 = .pointer (some ⟨b, 0, none⟩) := hτ 0 (by simp)
  have hs1 : τ 1 = .int .i64 idx := hτ 1 (by simp)
  have hs2 : τ 2 = .int .i64 tm := hτ 2 (by simp)
  have hs3 : τ 3 = .slice XL l.length cl := hτ 3 (by simp)
  clear hτ
  refine CW.seq ?_
  refine CW.region ?_
  refine RW.hard Wd.a ?_
  refine H.box (v := .pointer (some ⟨b, 0, none⟩)) (AF_ev rfl hs0) hst fun b1 w hst => ?_
  refine RW.hard Wd.a ?_
  refine H.box (v := .int .i64 idx) (AF_ev rfl (up rfl hs1)) hst fun b2 w hst => ?_
  refine RW.soft Wd.a (v := .int .i64 0) (by exact E.assign rfl) ?_
  refine RW.soft Wd.a (v := .int .i64 0) (by exact E.assign rfl) ?_
  refine RW.soft Wd.a (v := .bool false) (by exact E.assign rfl) ?_
  refine RW.fin (fun τ => τ 0 = .pointer (some ⟨b, 0, none⟩) ∧ τ 1 = .int .i64 idx ∧ τ 2 = .int .i64 tm ∧ τ 3 = .slice XL l.length cl ∧ τ 4 = .pointer (some ⟨b1, 0, none⟩) ∧ τ 5 = .pointer (some ⟨b2, 0, none⟩) ∧ τ 8 = .int .i64 0 ∧ τ 9 = .int .i64 0 ∧ τ 10 = .bool false) ⟨up rfl (up rfl (up rfl (up rfl (up rfl hs0)))), up rfl (up rfl (up rfl (up rfl (up rfl hs1)))), up rfl (up rfl (up rfl (up rfl (up rfl hs2)))), up rfl (up rfl (up rfl (up rfl (up rfl hs3)))), up rfl (up rfl (up rfl (up rfl tp))), up rfl (up rfl (up rfl tp)), up rfl (up rfl tp), up rfl tp, tp⟩ ?_
  rintro τ ⟨hs0, hs1, hs2, hs3, hs4, hs5, hs8, hs9, hs10⟩
  refine CW.seq ?_
  refine CW.seq ?_
  refine CW.regionD [0, 1] (fun w => w.cell? ⟨b2, 0, none⟩ = some (.int .i64 idx) ∧ w.cell? ⟨b1, 0, none⟩ = some (.pointer (some ⟨b, 0, none⟩))) mixed ?_
  have hst := hst.drew
  generalize w.drew = w at hst ⊢
  have hS : w.cell? ⟨b2, 0, none⟩ = some (.int .i64 idx) ∧ w.cell? ⟨b1, 0, none⟩ = some (.pointer (some ⟨b, 0, none⟩)) := ⟨hst.cell .here rfl, hst.cell (.there .here) rfl⟩
  refine RD.take 0 rfl (by kernel_rfl) Wd.a (v := .int .i64 idx) (fun w hS => by exact E.load (a := ⟨b2, 0, none⟩) Try.underlying3 rfl (AF_ev rfl hs5) hS.1) hS ?_
  refine RD.take 1 rfl (by kernel_rfl) Wd.a (v := .pointer (some ⟨b, 0, none⟩)) (fun w hS => by exact E.load (a := ⟨b1, 0, none⟩) Try.underlying47 rfl (AF_ev rfl (up rfl hs4)) hS.2) hS ?_
  refine RD.only 2 rfl (by kernel_rfl) Wd.a ?_
  have hst := hst.take (.there (.there .here))
  refine H.call0 Try.func30 nm30 rfl (map1 (AF_ev rfl tp)) (Calls.mono (ent_Last (by omega) (by omega) hst) ?_)
  rintro _ w ⟨rfl, hst⟩
  refine ⟨_, rfl, ?_⟩
  have hS : w.cell? ⟨b2, 0, none⟩ = some (.int .i64 idx) ∧ w.cell? ⟨b1, 0, none⟩ = some (.pointer (some ⟨b, 0, none⟩)) := ⟨hst.cell (.there .here) rfl, hst.cell (.there (.there .here)) rfl⟩
  refine ⟨fun _ => hS, ?_⟩
  refine RD.only 3 rfl (by kernel_rfl) Wd.a (Hd.value (v := .bool (decide (idx > (i + ((es.length : Nat) : Int))))) (by exact E.gtr (k := .i64) (a := idx) (b := i + ((es.length : Nat) : Int)) (AF_ev rfl (up rfl (up rfl tp))) (AF_ev rfl tp)) ⟨fun _ => hS, ?_⟩)
  refine RD.fin (by kernel_rfl) (fun τ => τ 0 = .pointer (some ⟨b, 0, none⟩) ∧ τ 1 = .int .i64 idx ∧ τ 2 = .int .i64 tm ∧ τ 3 = .slice XL l.length cl ∧ τ 4 = .pointer (some ⟨b1, 0, none⟩) ∧ τ 5 = .pointer (some ⟨b2, 0, none⟩) ∧ τ 8 = .int .i64 0 ∧ τ 9 = .int .i64 0 ∧ τ 10 = .bool false ∧ τ 18 = .bool (decide (idx > (i + ((es.length : Nat) : Int))))) ⟨up rfl (up rfl (up rfl (up rfl hs0))), up rfl (up rfl (up rfl (up rfl hs1))), up rfl (up rfl (up rfl (up rfl hs2))), up rfl (up rfl (up rfl (up rfl hs3))), up rfl (up rfl (up rfl (up rfl hs4))), up rfl (up rfl (up rfl (up rfl hs5))), up rfl (up rfl (up rfl (up rfl hs8))), up rfl (up rfl (up rfl (up rfl hs9))), up rfl (up rfl (up rfl (up rfl hs10))), tp⟩ ?_
  rintro τ ⟨hs0, hs1, hs2, hs3, hs4, hs5, hs8, hs9, hs10, hs18⟩
  refine CW.cond (AF_ev rfl hs18) (fun hc3 => ?_) (fun hc3 => ?_)
  · have hc3_ := hc3
    try simp only [decide_eq_true_eq, decide_eq_false_iff_not, Bool.and_eq_true, Bool.or_eq_true, Bool.and_eq_false_iff, Bool.or_eq_false_iff, Bool.not_eq_true', Bool.not_eq_false', beq_iff_eq, beq_eq_false_iff_ne, bne_iff_ne, bne_eq_false_iff_eq, ne_eq, Int.not_lt, Int.not_le, gt_iff_lt, ge_iff_le] at hc3_
    refine CW.seq ?_
    refine CW.region ?_
    refine RW.soft Wd.a (v := .pointer (some ⟨b, 0, none⟩)) (by exact E.load (a := ⟨b1, 0, none⟩) Try.underlying47 rfl (AF_ev rfl hs4) (hst.cell (.there (.there .here)) rfl)) ?_
    refine RW.hard Wd.a ?_
    refine H.call0 Try.func30 nm30 rfl (map1 (AF_ev rfl tp)) (Calls.mono (ent_Last (by omega) (by omega) hst) ?_)
    rintro _ w ⟨rfl, hst⟩
    refine ⟨_, rfl, ?_⟩
    show RW _ _ _ _ _ _ _
    refine RW.soft Wd.a (v := .int .i64 (i + ((es.length : Nat) : Int))) (by exact E.assign (AF_ev rfl tp)) ?_
    refine RW.soft Wd.a (v := .int .i64 0) (by exact E.assign rfl) ?_
    refine RW.soft Wd.a (v := .bool false) (by exact E.assign rfl) ?_
    refine RW.fin (fun τ => τ 0 = .pointer (some ⟨b, 0, none⟩) ∧ τ 1 = .int .i64 idx ∧ τ 2 = .int .i64 tm ∧ τ 3 = .slice XL l.length cl ∧ τ 4 = .pointer (some ⟨b1, 0, none⟩) ∧ τ 5 = .pointer (some ⟨b2, 0, none⟩) ∧ τ 8 = .int .i64 (i + ((es.length : Nat) : Int)) ∧ τ 9 = .int .i64 0 ∧ τ 10 = .bool false ∧ τ 18 = .bool true) ⟨up rfl (up rfl (up rfl (up rfl (up rfl hs0)))), up rfl (up rfl (up rfl (up rfl (up rfl hs1)))), up rfl (up rfl (up rfl (up rfl (up rfl hs2)))), up rfl (up rfl (up rfl (up rfl (up rfl hs3)))), up rfl (up rfl (up rfl (up rfl (up rfl hs4)))), up rfl (up rfl (up rfl (up rfl (up rfl hs5)))), up rfl (up rfl tp), up rfl tp, tp, up rfl (up rfl (up rfl (up rfl (up rfl (Eq.trans hs18 (congrArg Value.bool hc3))))))⟩ ?_
    rintro τ ⟨hs0, hs1, hs2, hs3, hs4, hs5, hs8, hs9, hs10, hs18⟩
    refine CW.ret ?_
    refine Th.r ?_
    refine retN (rs := [.tmp 8, .tmp 9, .tmp 10]) (vs := [.int .i64 (i + ((es.length : Nat) : Int)), .int .i64 0, .bool false]) rfl (by exact (.tmp (AF_ev rfl hs8) (.tmp (AF_ev rfl hs9) (.tmp (AF_ev rfl hs10) .nil)))) (by simp) ?_
    have hst := hst.take (.there (.there (.there (.there .here))))
    have hst := hst.take (.there (.there (.there (.there .here))))
    have hst := hst.take (.there (.there .here))
    have hst := (hst.take (.there (.there (.there .here)))).drop
    have hst := (hst.take (.there (.there (.there .here)))).drop
    have hf : idx > i + ((ts es).length : Nat) := by rw [ts_len]; omega
    exact ⟨p, es, p.le_refl, by unfold joinA joinF joinO; rw [if_pos hf, if_pos hf, if_pos hf, ts_len], by unfold joinL; rw [if_pos hf], logClose hi (by omega) hE hst⟩
  · have hc3_ := hc3
    try simp only [decide_eq_true_eq, decide_eq_false_iff_not, Bool.and_eq_true, Bool.or_eq_true, Bool.and_eq_false_iff, Bool.or_eq_false_iff, Bool.not_eq_true', Bool.not_eq_false', beq_iff_eq, beq_eq_false_iff_ne, bne_iff_ne, bne_eq_false_iff_eq, ne_eq, Int.not_lt, Int.not_le, gt_iff_lt, ge_iff_le] at hc3_
    refine CW.skip ?_
    refine Th.n ?_
    refine CW.seq ?_
    refine CW.seq ?_
    refine CW.region ?_
    refine RW.soft Wd.a (v := .pointer (some ⟨b, 0, none⟩)) (by exact E.load (a := ⟨b1, 0, none⟩) Try.underlying47 rfl (AF_ev rfl hs4) (hst.cell (.there (.there .here)) rfl)) ?_
    refine RW.soft Wd.a (v := .int .i64 idx) (by exact E.load (a := ⟨b2, 0, none⟩) Try.underlying3 rfl (AF_ev rfl (up rfl hs5)) (hst.cell (.there .here) rfl)) ?_
    have hst := hst.take (.there (.there (.there .here)))
    have hst := hst.take (.there .here)
    refine RW.hard Wd.a ?_
    refine H.call0 Try.func32 nm32 rfl (map2 (AF_ev rfl (up rfl tp)) (AF_ev rfl tp)) (Calls.mono (ent_Term (by omega) (by omega) hX idx (by omega) hst) ?_)
    rintro _ w ⟨rfl, hst⟩
    refine ⟨_, rfl, ?_⟩
    show RW _ _ _ _ _ _ _
    refine RW.soft Wd.a (v := .tuple #[.int .i64 (termT i t (ts es) idx), .int .i64 (termE i (ts es) idx)]) (by exact E.move (AF_ev rfl tp)) ?_
    refine RW.soft Wd.a (v := .int .i64 (termT i t (ts es) idx)) (by exact E.extract (vs := #[.int .i64 (termT i t (ts es) idx), .int .i64 (termE i (ts es) idx)]) (AF_ev rfl tp) rfl) ?_
    refine RW.soft Wd.a (v := .int .i64 (termE i (ts es) idx)) (by exact E.extract (vs := #[.int .i64 (termT i t (ts es) idx), .int .i64 (termE i (ts es) idx)]) (AF_ev rfl (up rfl tp)) rfl) ?_
    refine RW.soft Wd.a (v := .int .i64 (termT i t (ts es) idx)) (by exact E.assign (AF_ev rfl (up rfl tp))) ?_
    refine RW.soft Wd.a (v := .int .i64 (termE i (ts es) idx)) (by exact E.assign (AF_ev rfl (up rfl tp))) ?_
    refine RW.fin (fun τ => τ 0 = .pointer (some ⟨b, 0, none⟩) ∧ τ 1 = .int .i64 idx ∧ τ 2 = .int .i64 tm ∧ τ 3 = .slice XL l.length cl ∧ τ 4 = .pointer (some ⟨b1, 0, none⟩) ∧ τ 5 = .pointer (some ⟨b2, 0, none⟩) ∧ τ 8 = .int .i64 0 ∧ τ 9 = .int .i64 0 ∧ τ 10 = .bool false ∧ τ 11 = .int .i64 (termT i t (ts es) idx) ∧ τ 12 = .int .i64 (termE i (ts es) idx) ∧ τ 18 = .bool false) ⟨up rfl (up rfl (up rfl (up rfl (up rfl (up rfl (up rfl (up rfl hs0))))))), up rfl (up rfl (up rfl (up rfl (up rfl (up rfl (up rfl (up rfl hs1))))))), up rfl (up rfl (up rfl (up rfl (up rfl (up rfl (up rfl (up rfl hs2))))))), up rfl (up rfl (up rfl (up rfl (up rfl (up rfl (up rfl (up rfl hs3))))))), up rfl (up rfl (up rfl (up rfl (up rfl (up rfl (up rfl (up rfl hs4))))))), up rfl (up rfl (up rfl (up rfl (up rfl (up rfl (up rfl (up rfl hs5))))))), up rfl (up rfl (up rfl (up rfl (up rfl (up rfl (up rfl (up rfl hs8))))))), up rfl (up rfl (up rfl (up rfl (up rfl (up rfl (up rfl (up rfl hs9))))))), up rfl (up rfl (up rfl (up rfl (up rfl (up rfl (up rfl (up rfl hs10))))))), up rfl tp, tp, up rfl (up rfl (up rfl (up rfl (up rfl (up rfl (up rfl (up rfl (Eq.trans hs18 (congrArg Value.bool hc3)))))))))⟩ ?_
    rintro τ ⟨hs0, hs1, hs2, hs3, hs4, hs5, hs8, hs9, hs10, hs11, hs12, hs18⟩
    refine CW.seq ?_
    refine CW.cut (fun τ => τ 0 = .pointer (some ⟨b, 0, none⟩) ∧ τ 1 = .int .i64 idx ∧ τ 2 = .int .i64 tm ∧ τ 3 = .slice XL l.length cl ∧ τ 4 = .pointer (some ⟨b1, 0, none⟩) ∧ τ 5 = .pointer (some ⟨b2, 0, none⟩) ∧ τ 8 = .int .i64 0 ∧ τ 9 = .int .i64 0 ∧ τ 10 = .bool false ∧ τ 11 = .int .i64 (termT i t (ts es) idx) ∧ τ 12 = .int .i64 (termE i (ts es) idx) ∧ τ 18 = .bool false ∧ τ 33 = .bool (((termE i (ts es) idx) == 0) && ((termT i t (ts es) idx) != tm))) ?_ ?_
    · refine CW.region ?_
      refine RW.soft Wd.a (v := .int .i64 (termE i (ts es) idx)) (by exact E.move (AF_ev rfl hs12)) ?_
      refine RW.soft Wd.a (v := .bool ((termE i (ts es) idx) == 0)) (by exact E.eql (k := .i64) (a := termE i (ts es) idx) (b := 0) (AF_ev rfl tp) rfl) ?_
      refine RW.soft Wd.a (v := .bool ((termE i (ts es) idx) == 0)) (by exact E.move (AF_ev rfl tp)) ?_
      refine Or.elim (Bool.eq_false_or_eq_true ((termE i (ts es) idx) == 0)) (fun hg4 => ?_) (fun hg4 => ?_)
      · have hg4_ := hg4
        try simp only [decide_eq_true_eq, decide_eq_false_iff_not, Bool.and_eq_true, Bool.or_eq_true, Bool.and_eq_false_iff, Bool.or_eq_false_iff, Bool.not_eq_true', Bool.not_eq_false', beq_iff_eq, beq_eq_false_iff_ne, bne_iff_ne, bne_eq_false_iff_eq, ne_eq, Int.not_lt, Int.not_le, gt_iff_lt, ge_iff_le] at hg4_
        refine RW.soft (by exact Wd.yes (x := 29) rfl (AF_ev rfl (Eq.trans tp (congrArg Value.bool hg4)))) (v := .int .i64 (termT i t (ts es) idx)) (by exact E.move (AF_ev rfl (up rfl (up rfl (up rfl hs11))))) ?_
        refine RW.soft (by exact Wd.yes (x := 29) rfl (AF_ev rfl (up rfl (Eq.trans tp (congrArg Value.bool hg4))))) (v := .int .i64 tm) (by exact E.move (AF_ev rfl (up rfl (up rfl (up rfl (up rfl hs2)))))) ?_
        refine RW.soft (by exact Wd.yes (x := 29) rfl (AF_ev rfl (up rfl (up rfl (Eq.trans tp (congrArg Value.bool hg4)))))) (v := .bool ((termT i t (ts es) idx) != tm)) (by exact E.neq (k := .i64) (a := termT i t (ts es) idx) (b := tm) (AF_ev rfl (up rfl tp)) (AF_ev rfl tp)) ?_
        refine RW.soft Wd.a (v := .bool ((termT i t (ts es) idx) != tm)) (by exact E.pickT (AF_ev rfl (up rfl (up rfl (up rfl (Eq.trans tp (congrArg Value.bool hg4)))))) (AF_ev rfl tp)) ?_
        refine RW.nil ⟨rfl, rfl, up rfl (up rfl (up rfl (up rfl (up rfl (up rfl (up rfl hs0)))))), up rfl (up rfl (up rfl (up rfl (up rfl (up rfl (up rfl hs1)))))), up rfl (up rfl (up rfl (up rfl (up rfl (up rfl (up rfl hs2)))))), up rfl (up rfl (up rfl (up rfl (up rfl (up rfl (up rfl hs3)))))), up rfl (up rfl (up rfl (up rfl (up rfl (up rfl (up rfl hs4)))))), up rfl (up rfl (up rfl (up rfl (up rfl (up rfl (up rfl hs5)))))), up rfl (up rfl (up rfl (up rfl (up rfl (up rfl (up rfl hs8)))))), up rfl (up rfl (up rfl (up rfl (up rfl (up rfl (up rfl hs9)))))), up rfl (up rfl (up rfl (up rfl (up rfl (up rfl (up rfl hs10)))))), up rfl (up rfl (up rfl (up rfl (up rfl (up rfl (up rfl hs11)))))), up rfl (up rfl (up rfl (up rfl (up rfl (up rfl (up rfl hs12)))))), up rfl (up rfl (up rfl (up rfl (up rfl (up rfl (up rfl hs18)))))), (bool_eq (a := (termT i t (ts es) idx) != tm) tp (by simp only [hg4, Bool.true_and, Bool.false_and, Bool.true_or, Bool.false_or]))⟩
      · have hg4_ := hg4
        try simp only [decide_eq_true_eq, decide_eq_false_iff_not, Bool.and_eq_true, Bool.or_eq_true, Bool.and_eq_false_iff, Bool.or_eq_false_iff, Bool.not_eq_true', Bool.not_eq_false', beq_iff_eq, beq_eq_false_iff_ne, bne_iff_ne, bne_eq_false_iff_eq, ne_eq, Int.not_lt, Int.not_le, gt_iff_lt, ge_iff_le] at hg4_
        refine RW.pass (by exact Wd.no (x := 29) (b := false) rfl (AF_ev rfl (Eq.trans tp (congrArg Value.bool hg4))) rfl) ?_
        refine RW.pass (by exact Wd.no (x := 29) (b := false) rfl (AF_ev rfl (up rfl (Eq.trans tp (congrArg Value.bool hg4)))) rfl) ?_
        refine RW.pass (by exact Wd.no (x := 29) (b := false) rfl (AF_ev rfl (up rfl (up rfl (Eq.trans tp (congrArg Value.bool hg4))))) rfl) ?_
        refine RW.soft Wd.a (v := .bool false) (by exact E.pickF (AF_ev rfl (up rfl (up rfl (up rfl (Eq.trans tp (congrArg Value.bool hg4)))))) rfl) ?_
        refine RW.nil ⟨rfl, rfl, up rfl (up rfl (up rfl (up rfl (up rfl (up rfl (up rfl hs0)))))), up rfl (up rfl (up rfl (up rfl (up rfl (up rfl (up rfl hs1)))))), up rfl (up rfl (up rfl (up rfl (up rfl (up rfl (up rfl hs2)))))), up rfl (up rfl (up rfl (up rfl (up rfl (up rfl (up rfl hs3)))))), up rfl (up rfl (up rfl (up rfl (up rfl (up rfl (up rfl hs4)))))), up rfl (up rfl (up rfl (up rfl (up rfl (up rfl (up rfl hs5)))))), up rfl (up rfl (up rfl (up rfl (up rfl (up rfl (up rfl hs8)))))), up rfl (up rfl (up rfl (up rfl (up rfl (up rfl (up rfl hs9)))))), up rfl (up rfl (up rfl (up rfl (up rfl (up rfl (up rfl hs10)))))), up rfl (up rfl (up rfl (up rfl (up rfl (up rfl (up rfl hs11)))))), up rfl (up rfl (up rfl (up rfl (up rfl (up rfl (up rfl hs12)))))), up rfl (up rfl (up rfl (up rfl (up rfl (up rfl (up rfl hs18)))))), (bool_eq (a := false) tp (by simp only [hg4, Bool.true_and, Bool.false_and, Bool.true_or, Bool.false_or]))⟩
    rintro τ ⟨hs0, hs1, hs2, hs3, hs4, hs5, hs8, hs9, hs10, hs11, hs12, hs18, hs33⟩
    refine CW.cond (AF_ev rfl hs33) (fun hc5 => ?_) (fun hc5 => ?_)
    · have hc5_ := hc5
      try simp only [decide_eq_true_eq, decide_eq_false_iff_not, Bool.and_eq_true, Bool.or_eq_true, Bool.and_eq_false_iff, Bool.or_eq_false_iff, Bool.not_eq_true', Bool.not_eq_false', beq_iff_eq, beq_eq_false_iff_ne, bne_iff_ne, bne_eq_false_iff_eq, ne_eq, Int.not_lt, Int.not_le, gt_iff_lt, ge_iff_le] at hc5_
      have hcl : clash i t (ts es) idx tm = true := by unfold clash; exact hc5
      have hte : termE i (ts es) idx = 0 := by unfold clash at hcl; rw [Bool.and_eq_true] at hcl; simpa using hcl.1
      have hidx2 : i ≤ idx ∧ idx ≤ i + ((es.length : Nat) : Int) := by unfold termE at hte; rw [ts_len] at hte; (split at hte <;> first | omega | (split at hte <;> omega))
      refine CW.seq ?_
      refine CW.block ?_
      have hst := hst.take (.there (.there (.there (.there .here))))
      have hst := hst.take (.there (.there .here))
      have hst := hst.take (.there (.there .here))
      have hst := hst.take (.there (.there (.there (.there .here))))
      have hst := hst.take (.there (.there (.there (.there .here))))
      have hst : St p w (pt b2 (.cells #[.int .i64 (i + (((idx - i).toNat : Nat) : Int))] 3) :: pt b1 (.cells #[.pointer (some ⟨b, 0, none⟩)] 47) :: pt b (.cells #[.int .i64 i, .int .i64 t, .slice X es.length c] 122) :: Own 58 4 (.slice X es.length c) es.length (flat es) :: A :: R) := by rw [show i + (((idx - i).toNat : Nat) : Int) = idx from by omega]; exact hst
      refine CW.loop (fun (k : Nat) (τ : Fr) (w : World) => ∃ (m : Nat), m ≤ es.length ∧ back (ts es) (termT i t (ts es) idx) (idx - i).toNat = back (ts es) (termT i t (ts es) idx) m ∧ k = m ∧ τ 4 = .pointer (some ⟨b1, 0, none⟩) ∧ τ 5 = .pointer (some ⟨b2, 0, none⟩) ∧ τ 11 = .int .i64 (termT i t (ts es) idx) ∧ St p w (pt b2 (.cells #[.int .i64 (i + ((m : Nat) : Int))] 3) :: pt b1 (.cells #[.pointer (some ⟨b, 0, none⟩)] 47) :: pt b (.cells #[.int .i64 i, .int .i64 t, .slice X es.length c] 122) :: Own 58 4 (.slice X es.length c) es.length (flat es) :: A :: R)) ((idx - i).toNat) ⟨(idx - i).toNat, (by omega), rfl, rfl, hs4, hs5, hs11, hst⟩ ?_
      clear hst
      rintro k τ w ⟨m, hm, hbk, hkm, hs4, hs5, hs11, hst⟩
      refine CW.seq ?_
      refine CW.seq ?_
      refine Or.elim (Bool.eq_false_or_eq_true (decide ((i + ((m : Nat) : Int)) > i))) (fun hq1 => ?_) (fun hq1 => ?_)
      · skip
        have hq := of_decide_eq_true hq1
        obtain ⟨g, rfl⟩ := hX (by omega)
        obtain ⟨x, hx⟩ : ∃ x, es[(i + ((m : Nat) : Int) - (i + 1)).toNat]? = some x := ⟨_, List.getElem?_eq_getElem (by omega)⟩
        refine CW.regionD [0, 1, 2, 3, 4, 5, 6, 7, 8, 9, 10, 11, 12, 14, 15, 16, 17, 18, 19] (fun w => w.cell? ⟨b2, 0, none⟩ = some (.int .i64 (i + ((m : Nat) : Int))) ∧ w.cell? ⟨b1, 0, none⟩ = some (.pointer (some ⟨b, 0, none⟩)) ∧ w.cell? ⟨b, 0, none⟩ = some (.int .i64 i) ∧ w.cell? ⟨b, 2, none⟩ = some (.slice (some ⟨g, 0, none⟩) es.length c) ∧ w.cell? ⟨g, (i + ((m : Nat) : Int) - (i + 1)).toNat * 4, none⟩ = some (.int .i64 x.term)) mixed ?_
        have hst := hst.drew
        generalize w.drew = w at hst ⊢
        have hS : w.cell? ⟨b2, 0, none⟩ = some (.int .i64 (i + ((m : Nat) : Int))) ∧ w.cell? ⟨b1, 0, none⟩ = some (.pointer (some ⟨b, 0, none⟩)) ∧ w.cell? ⟨b, 0, none⟩ = some (.int .i64 i) ∧ w.cell? ⟨b, 2, none⟩ = some (.slice (some ⟨g, 0, none⟩) es.length c) ∧ w.cell? ⟨g, (i + ((m : Nat) : Int) - (i + 1)).toNat * 4, none⟩ = some (.int .i64 x.term) := ⟨hst.cell .here rfl, hst.cell (.there .here) rfl, hst.cell (.there (.there .here)) rfl, hst.cell (.there (.there .here)) rfl, (hst.ocell (.there (.there (.there .here))) (flat_get Ent.enc_len hx (j := 0) rfl))⟩
        refine RD.take 0 rfl (by kernel_rfl) Wd.a (v := .int .i64 (i + ((m : Nat) : Int))) (fun w hS => by exact E.load (a := ⟨b2, 0, none⟩) Try.underlying3 rfl (AF_ev rfl hs5) hS.1) hS ?_
        refine RD.take 1 rfl (by kernel_rfl) Wd.a (v := .pointer (some ⟨b, 0, none⟩)) (fun w hS => by exact E.load (a := ⟨b1, 0, none⟩) Try.underlying47 rfl (AF_ev rfl (up rfl hs4)) hS.2.1) hS ?_
        refine RD.take 2 rfl (by kernel_rfl) Wd.a (v := .pointer (some ⟨b, 0, none⟩)) (fun w hS => by exact E.nilCheck (a := ⟨b, 0, none⟩) (AF_ev rfl tp)) hS ?_
        refine RD.take 3 rfl (by kernel_rfl) Wd.a (v := .pointer (some ⟨b, 0, none⟩)) (fun w hS => by exact E.fieldAddr (b := b) (o := 0) (f := { name := "index", type := 3, offset := 0, embedded := false, tag := "", pkgPath := "strongroom/entries", byteOffset := 0 }) (AF_ev rfl tp) Try.underlying122 rfl sz3 rfl) hS ?_
        refine RD.take 4 rfl (by kernel_rfl) Wd.a (v := .int .i64 i) (fun w hS => by exact E.load (a := ⟨b, 0, none⟩) Try.underlying3 rfl (AF_ev rfl tp) hS.2.2.1) hS ?_
        refine RD.take 5 rfl (by kernel_rfl) Wd.a (v := .bool true) (fun w hS => by exact E.b (a := decide ((i + ((m : Nat) : Int)) > i)) (E.gtr (k := .i64) (a := i + ((m : Nat) : Int)) (b := i) (AF_ev rfl (up rfl (up rfl (up rfl (up rfl tp))))) (AF_ev rfl tp)) hq1) hS ?_
        refine RD.take 6 rfl (by kernel_rfl) Wd.a (v := .bool true) (fun w hS => by exact E.move (AF_ev rfl tp)) hS ?_
        refine RD.take 7 rfl (by kernel_rfl) (by exact Wd.yes (x := 40) rfl (AF_ev rfl tp)) (v := .pointer (some ⟨b, 0, none⟩)) (fun w hS => by exact E.load (a := ⟨b1, 0, none⟩) Try.underlying47 rfl (AF_ev rfl (up rfl (up rfl (up rfl (up rfl (up rfl (up rfl (up rfl hs4)))))))) hS.2.1) hS ?_
        refine RD.take 8 rfl (by kernel_rfl) (by exact Wd.yes (x := 40) rfl (AF_ev rfl (up rfl tp))) (v := .pointer (some ⟨b, 0, none⟩)) (fun w hS => by exact E.nilCheck (a := ⟨b, 0, none⟩) (AF_ev rfl tp)) hS ?_
        refine RD.take 9 rfl (by kernel_rfl) (by exact Wd.yes (x := 40) rfl (AF_ev rfl (up rfl (up rfl tp)))) (v := .pointer (some ⟨b, 2, none⟩)) (fun w hS => by exact E.fieldAddr (b := b) (o := 0) (f := { name := "l", type := 44, offset := 2, embedded := false, tag := "", pkgPath := "strongroom/entries", byteOffset := 16 }) (AF_ev rfl tp) Try.underlying122 rfl sz44 rfl) hS ?_
        refine RD.take 10 rfl (by kernel_rfl) (by exact Wd.yes (x := 40) rfl (AF_ev rfl (up rfl (up rfl (up rfl tp))))) (v := .slice (some ⟨g, 0, none⟩) es.length c) (fun w hS => by exact E.load (a := ⟨b, 2, none⟩) Try.underlying44 rfl (AF_ev rfl tp) hS.2.2.2.1) hS ?_
        refine RD.take 11 rfl (by kernel_rfl) (by exact Wd.yes (x := 40) rfl (AF_ev rfl (up rfl (up rfl (up rfl (up rfl tp)))))) (v := .int .i64 (i + ((m : Nat) : Int))) (fun w hS => by exact E.load (a := ⟨b2, 0, none⟩) Try.underlying3 rfl (AF_ev rfl (up rfl (up rfl (up rfl (up rfl (up rfl (up rfl (up rfl (up rfl (up rfl (up rfl (up rfl hs5)))))))))))) hS.1) hS ?_
        refine RD.take 12 rfl (by kernel_rfl) (by exact Wd.yes (x := 40) rfl (AF_ev rfl (up rfl (up rfl (up rfl (up rfl (up rfl tp))))))) (v := .pointer (some ⟨b, 0, none⟩)) (fun w hS => by exact E.load (a := ⟨b1, 0, none⟩) Try.underlying47 rfl (AF_ev rfl (up rfl (up rfl (up rfl (up rfl (up rfl (up rfl (up rfl (up rfl (up rfl (up rfl (up rfl (up rfl hs4))))))))))))) hS.2.1) hS ?_
        refine RD.take 18 rfl (by kernel_rfl) (by exact Wd.yes (x := 40) rfl (AF_ev rfl (up rfl (up rfl (up rfl (up rfl (up rfl (up rfl tp)))))))) (v := .int .i64 (termT i t (ts es) idx)) (fun w hS => by exact E.move (AF_ev rfl (up rfl (up rfl (up rfl (up rfl (up rfl (up rfl (up rfl (up rfl (up rfl (up rfl (up rfl (up rfl (up rfl hs11))))))))))))))) hS ?_
        refine RD.only 13 rfl (by kernel_rfl) (by exact Wd.yes (x := 40) rfl (AF_ev rfl (up rfl (up rfl (up rfl (up rfl (up rfl (up rfl (up rfl tp))))))))) ?_
        have hst := hst.take (.there (.there .here))
        refine H.call0 Try.func31 nm31 rfl (map1 (AF_ev rfl (up rfl tp))) (Calls.mono (ent_First (by omega) (by omega) hst) ?_)
        rintro _ w ⟨rfl, hst⟩
        refine ⟨_, rfl, ?_⟩
        have hS : w.cell? ⟨b2, 0, none⟩ = some (.int .i64 (i + ((m : Nat) : Int))) ∧ w.cell? ⟨b1, 0, none⟩ = some (.pointer (some ⟨b, 0, none⟩)) ∧ w.cell? ⟨b, 0, none⟩ = some (.int .i64 i) ∧ w.cell? ⟨b, 2, none⟩ = some (.slice (some ⟨g, 0, none⟩) es.length c) ∧ w.cell? ⟨g, (i + ((m : Nat) : Int) - (i + 1)).toNat * 4, none⟩ = some (.int .i64 x.term) := ⟨hst.cell (.there .here) rfl, hst.cell (.there (.there .here)) rfl, hst.cell .here rfl, hst.cell .here rfl, (hst.ocell (.there (.there (.there .here))) (flat_get Ent.enc_len hx (j := 0) rfl))⟩
        refine ⟨fun _ => hS, ?_⟩
        refine RD.take 14 rfl (by kernel_rfl) (by exact Wd.yes (x := 40) rfl (AF_ev rfl (up rfl (up rfl (up rfl (up rfl (up rfl (up rfl (up rfl (up rfl tp)))))))))) (v := .int .i64 (i + ((m : Nat) : Int) - (i + 1))) (fun w hS => by exact E.sub (k := .i64) (a := i + ((m : Nat) : Int)) (b := i + 1) (AF_ev rfl (up rfl (up rfl (up rfl tp)))) (AF_ev rfl tp) (show IntKind.i64.wrap ((i + ((m : Nat) : Int)) - (i + 1)) = i + ((m : Nat) : Int) - (i + 1) from (by rw [IntWalk.i64_in _ (by omega)] <;> omega))) hS ?_
        refine RD.take 15 rfl (by kernel_rfl) (by exact Wd.yes (x := 40) rfl (AF_ev rfl (up rfl (up rfl (up rfl (up rfl (up rfl (up rfl (up rfl (up rfl (up rfl tp))))))))))) (v := .pointer (some ⟨g, (i + ((m : Nat) : Int) - (i + 1)).toNat * 4, none⟩)) (fun w hS => by exact E.indexAddr (b := g) (o := 0) (l := es.length) (c := c) (i := i + ((m : Nat) : Int) - (i + 1)) Try.underlying44 sz58 (AF_ev rfl (up rfl (up rfl (up rfl (up rfl (up rfl tp)))))) (AF_ev rfl tp) (by omega) (by omega) (by simp)) hS ?_
        refine RD.take 16 rfl (by kernel_rfl) (by exact Wd.yes (x := 40) rfl (AF_ev rfl (up rfl (up rfl (up rfl (up rfl (up rfl (up rfl (up rfl (up rfl (up rfl (up rfl tp)))))))))))) (v := .pointer (some ⟨g, (i + ((m : Nat) : Int) - (i + 1)).toNat * 4, none⟩)) (fun w hS => by exact E.fieldAddr (b := g) (o := (i + ((m : Nat) : Int) - (i + 1)).toNat * 4) (f := { name := "Term", type := 3, offset := 0, embedded := false, tag := "", pkgPath := "", byteOffset := 0 }) (AF_ev rfl tp) Try.underlying58 rfl sz3 rfl) hS ?_
        refine RD.take 17 rfl (by kernel_rfl) (by exact Wd.yes (x := 40) rfl (AF_ev rfl (up rfl (up rfl (up rfl (up rfl (up rfl (up rfl (up rfl (up rfl (up rfl (up rfl (up rfl tp))))))))))))) (v := .int .i64 x.term) (fun w hS => by exact E.load (a := ⟨g, (i + ((m : Nat) : Int) - (i + 1)).toNat * 4, none⟩) Try.underlying3 rfl (AF_ev rfl tp) hS.2.2.2.2) hS ?_
        refine RD.take 19 rfl (by kernel_rfl) (by exact Wd.yes (x := 40) rfl (AF_ev rfl (up rfl (up rfl (up rfl (up rfl (up rfl (up rfl (up rfl (up rfl (up rfl (up rfl (up rfl (up rfl tp)))))))))))))) (v := .bool (x.term == (termT i t (ts es) idx))) (fun w hS => by exact E.eql (k := .i64) (a := x.term) (b := termT i t (ts es) idx) (AF_ev rfl tp) (AF_ev rfl (up rfl (up rfl (up rfl (up rfl (up rfl tp))))))) hS ?_
        refine RD.only 20 rfl (by kernel_rfl) Wd.a (Hd.value (v := .bool (x.term == (termT i t (ts es) idx))) (by exact E.pickT (AF_ev rfl (up rfl (up rfl (up rfl (up rfl (up rfl (up rfl (up rfl (up rfl (up rfl (up rfl (up rfl (up rfl (up rfl tp)))))))))))))) (AF_ev rfl tp)) ⟨fun _ => hS, ?_⟩)
        refine RD.fin (by kernel_rfl) (fun τ => τ 4 = .pointer (some ⟨b1, 0, none⟩) ∧ τ 5 = .pointer (some ⟨b2, 0, none⟩) ∧ τ 11 = .int .i64 (termT i t (ts es) idx) ∧ τ 54 = .bool (x.term == (termT i t (ts es) idx))) ⟨up rfl (up rfl (up rfl (up rfl (up rfl (up rfl (up rfl (up rfl (up rfl (up rfl (up rfl (up rfl (up rfl (up rfl (up rfl (up rfl (up rfl (up rfl (up rfl (up rfl (up rfl hs4)))))))))))))))))))), up rfl (up rfl (up rfl (up rfl (up rfl (up rfl (up rfl (up rfl (up rfl (up rfl (up rfl (up rfl (up rfl (up rfl (up rfl (up rfl (up rfl (up rfl (up rfl (up rfl (up rfl hs5)))))))))))))))))))), up rfl (up rfl (up rfl (up rfl (up rfl (up rfl (up rfl (up rfl (up rfl (up rfl (up rfl (up rfl (up rfl (up rfl (up rfl (up rfl (up rfl (up rfl (up rfl (up rfl (up rfl hs11)))))))))))))))))))), tp⟩ ?_
        rintro τ ⟨hs4, hs5, hs11, hs54⟩
        refine CW.cond (AF_ev rfl hs54) (fun hc6 => ?_) (fun hc6 => ?_)
        · have hc6_ := hc6
          try simp only [decide_eq_true_eq, decide_eq_false_iff_not, Bool.and_eq_true, Bool.or_eq_true, Bool.and_eq_false_iff, Bool.or_eq_false_iff, Bool.not_eq_true', Bool.not_eq_false', beq_iff_eq, beq_eq_false_iff_ne, bne_iff_ne, bne_eq_false_iff_eq, ne_eq, Int.not_lt, Int.not_le, gt_iff_lt, ge_iff_le] at hc6_
          have hbk2 : back (ts es) (termT i t (ts es) idx) (idx - i).toNat = back (ts es) (termT i t (ts es) idx) (m - 1) := by
            rw [hbk]; obtain ⟨z, rfl⟩ : ∃ z, m = z + 1 := ⟨m - 1, by omega⟩
            have hz : (ts es).getD z 0 = x.term := by
              rw [show (i + ((z + 1 : Nat) : Int) - (i + 1)).toNat = z from by omega] at hx; simp [ts, List.getD, hx]
            conv => lhs; unfold back
            rw [hz, if_pos (by simpa using hc6)]; rfl
          refine CW.skip ?_
          refine Th.n ?_
          refine CW.block ?_
          refine CW.region ?_
          refine RW.soft Wd.a (v := .int .i64 (i + ((m : Nat) : Int))) (by exact E.load (a := ⟨b2, 0, none⟩) Try.underlying3 rfl (AF_ev rfl hs5) (hst.cell (.there .here) rfl)) ?_
          refine RW.soft Wd.a (v := .int .i64 (i + ((m : Nat) : Int) - 1)) (by exact E.sub (k := .i64) (a := i + ((m : Nat) : Int)) (b := 1) (AF_ev rfl tp) rfl (show IntKind.i64.wrap ((i + ((m : Nat) : Int)) - 1) = i + ((m : Nat) : Int) - 1 from (by rw [IntWalk.i64_in _ (by omega)] <;> omega))) ?_
          refine RW.hard Wd.a ?_
          refine H.store (b := b2) (o := 0) (v := .int .i64 (i + ((m : Nat) : Int) - 1)) (c' := #[.int .i64 (i + ((m : Nat) : Int) - 1)]) (AF_ev rfl (up rfl (up rfl hs5))) (AF_ev rfl tp) hst (.there .here) sz3 (by simp [Value.cells]) (by simp [Value.cells, Value.oneCell']) rfl fun w hst => ?_
          refine RW.nil ?_
          refine Bl.n ?_
          refine Th.n ?_
          obtain ⟨m, rfl⟩ : ∃ z, m = z + 1 := ⟨m - 1, by omega⟩
          have hst := hst.take (.there (.there (.there (.there .here))))
          have hst := hst.take (.there (.there (.there (.there .here))))
          have hst := hst.take (.there (.there .here))
          have hst := hst.take (.there (.there (.there (.there .here))))
          have hst := hst.take (.there (.there (.there (.there .here))))
          have hst : St p w (pt b2 (.cells #[.int .i64 (i + ((m : Nat) : Int))] 3) :: pt b1 (.cells #[.pointer (some ⟨b, 0, none⟩)] 47) :: pt b (.cells #[.int .i64 i, .int .i64 t, .slice (some ⟨g, 0, none⟩) es.length c] 122) :: Own 58 4 (.slice (some ⟨g, 0, none⟩) es.length c) es.length (flat es) :: A :: R) := by rw [show i + ((m : Nat) : Int) = i + ((m + 1 : Nat) : Int) - 1 from by omega]; exact hst
          have hst := hst.take (.there (.there (.there (.there .here))))
          have hst := hst.take (.there (.there (.there (.there .here))))
          have hst := hst.take (.there (.there (.there (.there .here))))
          have hst := hst.take (.there (.there (.there (.there .here))))
          have hst := hst.take (.there (.there (.there (.there .here))))
          exact ⟨m, by omega, m, (by omega), hbk2, (by omega), u0 (up rfl (up rfl hs4)), u0 (up rfl (up rfl hs5)), u0 (up rfl (up rfl hs11)), hst⟩
        · have hc6_ := hc6
          try simp only [decide_eq_true_eq, decide_eq_false_iff_not, Bool.and_eq_true, Bool.or_eq_true, Bool.and_eq_false_iff, Bool.or_eq_false_iff, Bool.not_eq_true', Bool.not_eq_false', beq_iff_eq, beq_eq_false_iff_ne, bne_iff_ne, bne_eq_false_iff_eq, ne_eq, Int.not_lt, Int.not_le, gt_iff_lt, ge_iff_le] at hc6_
          have hbe : back (ts es) (termT i t (ts es) idx) m = m := by
            obtain ⟨z, rfl⟩ : ∃ z, m = z + 1 := ⟨m - 1, by omega⟩
            have hz : (ts es).getD z 0 = x.term := by
              rw [show (i + ((z + 1 : Nat) : Int) - (i + 1)).toNat = z from by omega] at hx; simp [ts, List.getD, hx]
            unfold back
            rw [hz, if_neg (by simpa using hc6)]
          refine CW.exit ?_
          refine Th.x ?_
          refine Th.x ?_
          refine Bl.x ?_
          refine Th.n ?_
          refine CW.seq ?_
          refine CW.region ?_
          refine RW.soft Wd.a (v := .int .i64 (i + ((m : Nat) : Int))) (by exact E.load (a := ⟨b2, 0, none⟩) Try.underlying3 rfl (AF_ev rfl hs5) (hst.cell (.there .here) rfl)) ?_
          refine RW.soft Wd.a (v := .int .i64 (i + ((m : Nat) : Int))) (by exact E.assign (AF_ev rfl tp)) ?_
          refine RW.soft Wd.a (v := .int .i64 0) (by exact E.assign rfl) ?_
          refine RW.soft Wd.a (v := .bool false) (by exact E.assign rfl) ?_
          refine RW.fin (fun τ => τ 4 = .pointer (some ⟨b1, 0, none⟩) ∧ τ 5 = .pointer (some ⟨b2, 0, none⟩) ∧ τ 8 = .int .i64 (i + ((m : Nat) : Int)) ∧ τ 9 = .int .i64 0 ∧ τ 10 = .bool false ∧ τ 11 = .int .i64 (termT i t (ts es) idx) ∧ τ 54 = .bool false) ⟨up rfl (up rfl (up rfl (up rfl hs4))), up rfl (up rfl (up rfl (up rfl hs5))), up rfl (up rfl tp), up rfl tp, tp, up rfl (up rfl (up rfl (up rfl hs11))), up rfl (up rfl (up rfl (up rfl (Eq.trans hs54 (congrArg Value.bool hc6)))))⟩ ?_
          rintro τ ⟨hs4, hs5, hs8, hs9, hs10, hs11, hs54⟩
          refine CW.ret ?_
          refine Th.r ?_
          refine retN (rs := [.tmp 8, .tmp 9, .tmp 10]) (vs := [.int .i64 (i + ((m : Nat) : Int)), .int .i64 0, .bool false]) rfl (by exact (.tmp (AF_ev rfl hs8) (.tmp (AF_ev rfl hs9) (.tmp (AF_ev rfl hs10) .nil)))) (by simp) ?_
          have hst := hst.take (.there (.there (.there (.there .here))))
          have hst := hst.take (.there (.there (.there (.there .here))))
          have hst := hst.take (.there (.there .here))
          have hst := (hst.take (.there (.there (.there .here)))).drop
          have hst := (hst.take (.there (.there (.there .here)))).drop
          have hnl : ¬ idx > i + ((ts es).length : Nat) := by rw [ts_len]; omega
          exact ⟨p, es, p.le_refl, by unfold joinA joinF joinO; rw [if_neg hnl, if_neg hnl, if_neg hnl, if_pos hcl, if_pos hcl, if_pos hcl, hbk, hbe], by unfold joinL; rw [if_neg hnl, if_pos hcl], logClose hi (by omega) hE hst⟩
      · skip
        refine CW.regionD [0, 1, 2, 3, 4, 5, 6, 7, 8, 9, 10, 11, 12, 14, 15, 16, 17, 18, 19] (fun w => w.cell? ⟨b2, 0, none⟩ = some (.int .i64 (i + ((m : Nat) : Int))) ∧ w.cell? ⟨b1, 0, none⟩ = some (.pointer (some ⟨b, 0, none⟩)) ∧ w.cell? ⟨b, 0, none⟩ = some (.int .i64 i)) mixed ?_
        have hst := hst.drew
        generalize w.drew = w at hst ⊢
        have hS : w.cell? ⟨b2, 0, none⟩ = some (.int .i64 (i + ((m : Nat) : Int))) ∧ w.cell? ⟨b1, 0, none⟩ = some (.pointer (some ⟨b, 0, none⟩)) ∧ w.cell? ⟨b, 0, none⟩ = some (.int .i64 i) := ⟨hst.cell .here rfl, hst.cell (.there .here) rfl, hst.cell (.there (.there .here)) rfl⟩
        refine RD.take 0 rfl (by kernel_rfl) Wd.a (v := .int .i64 (i + ((m : Nat) : Int))) (fun w hS => by exact E.load (a := ⟨b2, 0, none⟩) Try.underlying3 rfl (AF_ev rfl hs5) hS.1) hS ?_
        refine RD.take 1 rfl (by kernel_rfl) Wd.a (v := .pointer (some ⟨b, 0, none⟩)) (fun w hS => by exact E.load (a := ⟨b1, 0, none⟩) Try.underlying47 rfl (AF_ev rfl (up rfl hs4)) hS.2.1) hS ?_
        refine RD.take 2 rfl (by kernel_rfl) Wd.a (v := .pointer (some ⟨b, 0, none⟩)) (fun w hS => by exact E.nilCheck (a := ⟨b, 0, none⟩) (AF_ev rfl tp)) hS ?_
        refine RD.take 3 rfl (by kernel_rfl) Wd.a (v := .pointer (some ⟨b, 0, none⟩)) (fun w hS => by exact E.fieldAddr (b := b) (o := 0) (f := { name := "index", type := 3, offset := 0, embedded := false, tag := "", pkgPath := "strongroom/entries", byteOffset := 0 }) (AF_ev rfl tp) Try.underlying122 rfl sz3 rfl) hS ?_
        refine RD.take 4 rfl (by kernel_rfl) Wd.a (v := .int .i64 i) (fun w hS => by exact E.load (a := ⟨b, 0, none⟩) Try.underlying3 rfl (AF_ev rfl tp) hS.2.2) hS ?_
        refine RD.take 5 rfl (by kernel_rfl) Wd.a (v := .bool false) (fun w hS => by exact E.b (a := decide ((i + ((m : Nat) : Int)) > i)) (E.gtr (k := .i64) (a := i + ((m : Nat) : Int)) (b := i) (AF_ev rfl (up rfl (up rfl (up rfl (up rfl tp))))) (AF_ev rfl tp)) hq1) hS ?_
        refine RD.take 6 rfl (by kernel_rfl) Wd.a (v := .bool false) (fun w hS => by exact E.move (AF_ev rfl tp)) hS ?_
        refine RD.pass 7 rfl (by kernel_rfl) (by exact Wd.no (x := 40) (b := false) rfl (AF_ev rfl tp) rfl) hS ?_
        refine RD.pass 8 rfl (by kernel_rfl) (by exact Wd.no (x := 40) (b := false) rfl (AF_ev rfl (up rfl tp)) rfl) hS ?_
        refine RD.pass 9 rfl (by kernel_rfl) (by exact Wd.no (x := 40) (b := false) rfl (AF_ev rfl (up rfl (up rfl tp))) rfl) hS ?_
        refine RD.pass 10 rfl (by kernel_rfl) (by exact Wd.no (x := 40) (b := false) rfl (AF_ev rfl (up rfl (up rfl (up rfl tp)))) rfl) hS ?_
        refine RD.pass 11 rfl (by kernel_rfl) (by exact Wd.no (x := 40) (b := false) rfl (AF_ev rfl (up rfl (up rfl (up rfl (up rfl tp))))) rfl) hS ?_
        refine RD.pass 12 rfl (by kernel_rfl) (by exact Wd.no (x := 40) (b := false) rfl (AF_ev rfl (up rfl (up rfl (up rfl (up rfl (up rfl tp)))))) rfl) hS ?_
        refine RD.pass 18 rfl (by kernel_rfl) (by exact Wd.no (x := 40) (b := false) rfl (AF_ev rfl (up rfl (up rfl (up rfl (up rfl (up rfl (up rfl tp))))))) rfl) hS ?_
        refine RD.skip 13 rfl (by kernel_rfl) (by exact Wd.no (x := 40) (b := false) rfl (AF_ev rfl (up rfl (up rfl (up rfl (up rfl (up rfl (up rfl (up rfl tp)))))))) rfl) hS ?_
        refine RD.pass 14 rfl (by kernel_rfl) (by exact Wd.no (x := 40) (b := false) rfl (AF_ev rfl (up rfl (up rfl (up rfl (up rfl (up rfl (up rfl (up rfl (up rfl tp))))))))) rfl) hS ?_
        refine RD.pass 15 rfl (by kernel_rfl) (by exact Wd.no (x := 40) (b := false) rfl (AF_ev rfl (up rfl (up rfl (up rfl (up rfl (up rfl (up rfl (up rfl (up rfl (up rfl tp)))))))))) rfl) hS ?_
        refine RD.pass 16 rfl (by kernel_rfl) (by exact Wd.no (x := 40) (b := false) rfl (AF_ev rfl (up rfl (up rfl (up rfl (up rfl (up rfl (up rfl (up rfl (up rfl (up rfl (up rfl tp))))))))))) rfl) hS ?_
        refine RD.pass 17 rfl (by kernel_rfl) (by exact Wd.no (x := 40) (b := false) rfl (AF_ev rfl (up rfl (up rfl (up rfl (up rfl (up rfl (up rfl (up rfl (up rfl (up rfl (up rfl (up rfl tp)))))))))))) rfl) hS ?_
        refine RD.pass 19 rfl (by kernel_rfl) (by exact Wd.no (x := 40) (b := false) rfl (AF_ev rfl (up rfl (up rfl (up rfl (up rfl (up rfl (up rfl (up rfl (up rfl (up rfl (up rfl (up rfl (up rfl tp))))))))))))) rfl) hS ?_
        refine RD.only 20 rfl (by kernel_rfl) Wd.a (Hd.value (v := .bool false) (by exact E.pickF (AF_ev rfl (up rfl (up rfl (up rfl (up rfl (up rfl (up rfl (up rfl (up rfl (up rfl (up rfl (up rfl (up rfl (up rfl tp)))))))))))))) rfl) ⟨fun _ => hS, ?_⟩)
        refine RD.fin (by kernel_rfl) (fun τ => τ 4 = .pointer (some ⟨b1, 0, none⟩) ∧ τ 5 = .pointer (some ⟨b2, 0, none⟩) ∧ τ 11 = .int .i64 (termT i t (ts es) idx) ∧ τ 54 = .bool false) ⟨up rfl (up rfl (up rfl (up rfl (up rfl (up rfl (up rfl (up rfl (up rfl (up rfl (up rfl (up rfl (up rfl (up rfl (up rfl (up rfl (up rfl (up rfl (up rfl (up rfl (up rfl hs4)))))))))))))))))))), up rfl (up rfl (up rfl (up rfl (up rfl (up rfl (up rfl (up rfl (up rfl (up rfl (up rfl (up rfl (up rfl (up rfl (up rfl (up rfl (up rfl (up rfl (up rfl (up rfl (up rfl hs5)))))))))))))))))))), up rfl (up rfl (up rfl (up rfl (up rfl (up rfl (up rfl (up rfl (up rfl (up rfl (up rfl (up rfl (up rfl (up rfl (up rfl (up rfl (up rfl (up rfl (up rfl (up rfl (up rfl hs11)))))))))))))))))))), tp⟩ ?_
        rintro τ ⟨hs4, hs5, hs11, hs54⟩
        refine CW.condF (AF_ev rfl hs54) ?_
        refine CW.exit ?_
        refine Th.x ?_
        refine Th.x ?_
        refine Bl.x ?_
        refine Th.n ?_
        refine CW.seq ?_
        have hbe : back (ts es) (termT i t (ts es) idx) m = m := by
          have hq := of_decide_eq_false hq1
          obtain rfl : m = 0 := by omega
          rfl
        refine CW.region ?_
        refine RW.soft Wd.a (v := .int .i64 (i + ((m : Nat) : Int))) (by exact E.load (a := ⟨b2, 0, none⟩) Try.underlying3 rfl (AF_ev rfl hs5) (hst.cell .here rfl)) ?_
        refine RW.soft Wd.a (v := .int .i64 (i + ((m : Nat) : Int))) (by exact E.assign (AF_ev rfl tp)) ?_
        refine RW.soft Wd.a (v := .int .i64 0) (by exact E.assign rfl) ?_
        refine RW.soft Wd.a (v := .bool false) (by exact E.assign rfl) ?_
        refine RW.fin (fun τ => τ 4 = .pointer (some ⟨b1, 0, none⟩) ∧ τ 5 = .pointer (some ⟨b2, 0, none⟩) ∧ τ 8 = .int .i64 (i + ((m : Nat) : Int)) ∧ τ 9 = .int .i64 0 ∧ τ 10 = .bool false ∧ τ 11 = .int .i64 (termT i t (ts es) idx) ∧ τ 54 = .bool false) ⟨up rfl (up rfl (up rfl (up rfl hs4))), up rfl (up rfl (up rfl (up rfl hs5))), up rfl (up rfl tp), up rfl tp, tp, up rfl (up rfl (up rfl (up rfl hs11))), up rfl (up rfl (up rfl (up rfl hs54)))⟩ ?_
        rintro τ ⟨hs4, hs5, hs8, hs9, hs10, hs11, hs54⟩
        refine CW.ret ?_
        refine Th.r ?_
        refine retN (rs := [.tmp 8, .tmp 9, .tmp 10]) (vs := [.int .i64 (i + ((m : Nat) : Int)), .int .i64 0, .bool false]) rfl (by exact (.tmp (AF_ev rfl hs8) (.tmp (AF_ev rfl hs9) (.tmp (AF_ev rfl hs10) .nil)))) (by simp) ?_
        have hst := hst.take (.there (.there (.there (.there .here))))
        have hst := hst.take (.there (.there (.there (.there .here))))
        have hst := hst.take (.there (.there (.there (.there .here))))
        have hst := (hst.take (.there (.there (.there .here)))).drop
        have hst := (hst.take (.there (.there (.there .here)))).drop
        have hnl : ¬ idx > i + ((ts es).length : Nat) := by rw [ts_len]; omega
        exact ⟨p, es, p.le_refl, by unfold joinA joinF joinO; rw [if_neg hnl, if_neg hnl, if_neg hnl, if_pos hcl, if_pos hcl, if_pos hcl, hbk, hbe], by unfold joinL; rw [if_neg hnl, if_pos hcl], logClose hi (by omega) hE hst⟩
    · have hc5_ := hc5
      try simp only [decide_eq_true_eq, decide_eq_false_iff_not, Bool.and_eq_true, Bool.or_eq_true, Bool.and_eq_false_iff, Bool.or_eq_false_iff, Bool.not_eq_true', Bool.not_eq_false', beq_iff_eq, beq_eq_false_iff_ne, bne_iff_ne, bne_eq_false_iff_eq, ne_eq, Int.not_lt, Int.not_le, gt_iff_lt, ge_iff_le] at hc5_
      have hcl : ¬ clash i t (ts es) idx tm = true := by unfold clash; rw [hc5]; exact Bool.noConfusion
      refine CW.skip ?_
      refine Th.n ?_
      refine CW.seq ?_
      have hge := findJ_ge (i := i) (t := t) (idx := idx) (T := ts es) (ts l) 0 (by omega)
      have htl := ts_len l
      have htes := ts_len es
      refine CW.region ?_
      refine RW.soft Wd.a (v := .int .i64 idx) (by exact E.load (a := ⟨b2, 0, none⟩) Try.underlying3 rfl (AF_ev rfl hs5) (hst.cell (.there (.there .here)) rfl)) ?_
      refine RW.soft Wd.a (v := .slice XL l.length cl) (by exact E.move (AF_ev rfl (up rfl hs3))) ?_
      refine RW.soft Wd.a (v := .int .i64 ((l.length : Nat) : Int)) (by exact E.lenS (p := XL) (l := l.length) (c := cl) Try.underlying44 (AF_ev rfl tp)) ?_
      refine RW.soft Wd.a (v := .int .i64 (idx + ((l.length : Nat) : Int))) (by exact E.add (k := .i64) (a := idx) (b := ((l.length : Nat) : Int)) (AF_ev rfl (up rfl (up rfl tp))) (AF_ev rfl tp) (show IntKind.i64.wrap (idx + ((l.length : Nat) : Int)) = idx + ((l.length : Nat) : Int) from (by rw [IntWalk.i64_in _ (by omega)]))) ?_
      refine RW.soft Wd.a (v := .int .i64 (idx + ((l.length : Nat) : Int))) (by exact E.assign (AF_ev rfl tp)) ?_
      refine RW.fin (fun τ => τ 0 = .pointer (some ⟨b, 0, none⟩) ∧ τ 1 = .int .i64 idx ∧ τ 2 = .int .i64 tm ∧ τ 3 = .slice XL l.length cl ∧ τ 4 = .pointer (some ⟨b1, 0, none⟩) ∧ τ 5 = .pointer (some ⟨b2, 0, none⟩) ∧ τ 8 = .int .i64 (idx + ((l.length : Nat) : Int)) ∧ τ 9 = .int .i64 0 ∧ τ 10 = .bool false ∧ τ 11 = .int .i64 (termT i t (ts es) idx) ∧ τ 12 = .int .i64 (termE i (ts es) idx) ∧ τ 18 = .bool false ∧ τ 33 = .bool false) ⟨up rfl (up rfl (up rfl (up rfl (up rfl hs0)))), up rfl (up rfl (up rfl (up rfl (up rfl hs1)))), up rfl (up rfl (up rfl (up rfl (up rfl hs2)))), up rfl (up rfl (up rfl (up rfl (up rfl hs3)))), up rfl (up rfl (up rfl (up rfl (up rfl hs4)))), up rfl (up rfl (up rfl (up rfl (up rfl hs5)))), tp, up rfl (up rfl (up rfl (up rfl (up rfl hs9)))), up rfl (up rfl (up rfl (up rfl (up rfl hs10)))), up rfl (up rfl (up rfl (up rfl (up rfl hs11)))), up rfl (up rfl (up rfl (up rfl (up rfl hs12)))), up rfl (up rfl (up rfl (up rfl (up rfl hs18)))), up rfl (up rfl (up rfl (up rfl (up rfl (Eq.trans hs33 (congrArg Value.bool hc5))))))⟩ ?_
      rintro τ ⟨hs0, hs1, hs2, hs3, hs4, hs5, hs8, hs9, hs10, hs11, hs12, hs18, hs33⟩
      refine CW.seq ?_
      refine CW.region ?_
      refine RW.soft Wd.a (v := .func (.func 68) #[] #[.pointer (some ⟨b2, 0, none⟩), .pointer (some ⟨b1, 0, none⟩)]) (by exact E.makeFunc map0 (map2 (AF_ev rfl hs5) (AF_ev rfl hs4))) ?_
      refine RW.soft Wd.a (v := .func (.func 68) #[] #[.pointer (some ⟨b2, 0, none⟩), .pointer (some ⟨b1, 0, none⟩)]) (by exact E.assign (AF_ev rfl tp)) ?_
      refine RW.fin (fun τ => τ 0 = .pointer (some ⟨b, 0, none⟩) ∧ τ 1 = .int .i64 idx ∧ τ 2 = .int .i64 tm ∧ τ 3 = .slice XL l.length cl ∧ τ 4 = .pointer (some ⟨b1, 0, none⟩) ∧ τ 5 = .pointer (some ⟨b2, 0, none⟩) ∧ τ 8 = .int .i64 (idx + ((l.length : Nat) : Int)) ∧ τ 9 = .int .i64 0 ∧ τ 10 = .bool false ∧ τ 11 = .int .i64 (termT i t (ts es) idx) ∧ τ 12 = .int .i64 (termE i (ts es) idx) ∧ τ 13 = .func (.func 68) #[] #[.pointer (some ⟨b2, 0, none⟩), .pointer (some ⟨b1, 0, none⟩)] ∧ τ 18 = .bool false ∧ τ 33 = .bool false) ⟨up rfl (up rfl hs0), up rfl (up rfl hs1), up rfl (up rfl hs2), up rfl (up rfl hs3), up rfl (up rfl hs4), up rfl (up rfl hs5), up rfl (up rfl hs8), up rfl (up rfl hs9), up rfl (up rfl hs10), up rfl (up rfl hs11), up rfl (up rfl hs12), tp, up rfl (up rfl hs18), up rfl (up rfl hs33)⟩ ?_
      rintro τ ⟨hs0, hs1, hs2, hs3, hs4, hs5, hs8, hs9, hs10, hs11, hs12, hs13, hs18, hs33⟩
      refine CW.seq ?_
      refine CW.region ?_
      refine RW.soft Wd.a (v := .slice XL l.length cl) (by exact E.move (AF_ev rfl hs3)) ?_
      refine RW.soft Wd.a (v := .func (.func 68) #[] #[.pointer (some ⟨b2, 0, none⟩), .pointer (some ⟨b1, 0, none⟩)]) (by exact E.move (AF_ev rfl (up rfl hs13))) ?_
      have hst := hst.take (.there (.there (.there (.there .here))))
      have hst := hst.take (.there (.there .here))
      have hst := hst.take (.there (.there .here))
      have hst := hst.take (.there (.there (.there (.there .here))))
      have hst := hst.take (.there (.there (.there (.there .here))))
      refine RW.hard Wd.a ?_
      refine H.call0 Try.func69 nm69 rfl (map2 (AF_ev rfl (up rfl tp)) (AF_ev rfl tp)) (Calls.mono (ent_IndexFunc (by omega) (by omega) hX idx (by omega) (by omega) hA hst) ?_)
      rintro _ w ⟨rfl, hst⟩
      refine ⟨_, rfl, ?_⟩
      show RW _ _ _ _ _ _ _
      refine RW.soft Wd.a (v := .int .i64 (findJ i t (ts es) idx (ts l) 0)) (by exact E.assign (AF_ev rfl tp)) ?_
      refine RW.fin (fun τ => τ 0 = .pointer (some ⟨b, 0, none⟩) ∧ τ 1 = .int .i64 idx ∧ τ 2 = .int .i64 tm ∧ τ 3 = .slice XL l.length cl ∧ τ 4 = .pointer (some ⟨b1, 0, none⟩) ∧ τ 5 = .pointer (some ⟨b2, 0, none⟩) ∧ τ 8 = .int .i64 (idx + ((l.length : Nat) : Int)) ∧ τ 9 = .int .i64 0 ∧ τ 10 = .bool false ∧ τ 11 = .int .i64 (termT i t (ts es) idx) ∧ τ 12 = .int .i64 (termE i (ts es) idx) ∧ τ 13 = .func (.func 68) #[] #[.pointer (some ⟨b2, 0, none⟩), .pointer (some ⟨b1, 0, none⟩)] ∧ τ 14 = .int .i64 (findJ i t (ts es) idx (ts l) 0) ∧ τ 18 = .bool false ∧ τ 33 = .bool false) ⟨up rfl (up rfl (up rfl (up rfl hs0))), up rfl (up rfl (up rfl (up rfl hs1))), up rfl (up rfl (up rfl (up rfl hs2))), up rfl (up rfl (up rfl (up rfl hs3))), up rfl (up rfl (up rfl (up rfl hs4))), up rfl (up rfl (up rfl (up rfl hs5))), up rfl (up rfl (up rfl (up rfl hs8))), up rfl (up rfl (up rfl (up rfl hs9))), up rfl (up rfl (up rfl (up rfl hs10))), up rfl (up rfl (up rfl (up rfl hs11))), up rfl (up rfl (up rfl (up rfl hs12))), up rfl (up rfl (up rfl (up rfl hs13))), tp, up rfl (up rfl (up rfl (up rfl hs18))), up rfl (up rfl (up rfl (up rfl hs33)))⟩ ?_
      rintro τ ⟨hs0, hs1, hs2, hs3, hs4, hs5, hs8, hs9, hs10, hs11, hs12, hs13, hs14, hs18, hs33⟩
      refine CW.seq ?_
      refine CW.seq ?_
      refine CW.region ?_
      refine RW.soft Wd.a (v := .int .i64 (findJ i t (ts es) idx (ts l) 0)) (by exact E.move (AF_ev rfl hs14)) ?_
      refine RW.soft Wd.a (v := .bool (decide ((findJ i t (ts es) idx (ts l) 0) < 0))) (by exact E.lss (k := .i64) (a := findJ i t (ts es) idx (ts l) 0) (b := 0) (AF_ev rfl tp) rfl) ?_
      refine RW.fin (fun τ => τ 0 = .pointer (some ⟨b, 0, none⟩) ∧ τ 1 = .int .i64 idx ∧ τ 2 = .int .i64 tm ∧ τ 3 = .slice XL l.length cl ∧ τ 4 = .pointer (some ⟨b1, 0, none⟩) ∧ τ 5 = .pointer (some ⟨b2, 0, none⟩) ∧ τ 8 = .int .i64 (idx + ((l.length : Nat) : Int)) ∧ τ 9 = .int .i64 0 ∧ τ 10 = .bool false ∧ τ 11 = .int .i64 (termT i t (ts es) idx) ∧ τ 12 = .int .i64 (termE i (ts es) idx) ∧ τ 13 = .func (.func 68) #[] #[.pointer (some ⟨b2, 0, none⟩), .pointer (some ⟨b1, 0, none⟩)] ∧ τ 14 = .int .i64 (findJ i t (ts es) idx (ts l) 0) ∧ τ 18 = .bool false ∧ τ 33 = .bool false ∧ τ 67 = .bool (decide ((findJ i t (ts es) idx (ts l) 0) < 0))) ⟨up rfl (up rfl hs0), up rfl (up rfl hs1), up rfl (up rfl hs2), up rfl (up rfl hs3), up rfl (up rfl hs4), up rfl (up rfl hs5), up rfl (up rfl hs8), up rfl (up rfl hs9), up rfl (up rfl hs10), up rfl (up rfl hs11), up rfl (up rfl hs12), up rfl (up rfl hs13), up rfl (up rfl hs14), up rfl (up rfl hs18), up rfl (up rfl hs33), tp⟩ ?_
      rintro τ ⟨hs0, hs1, hs2, hs3, hs4, hs5, hs8, hs9, hs10, hs11, hs12, hs13, hs14, hs18, hs33, hs67⟩
      refine CW.cond (AF_ev rfl hs67) (fun hc7 => ?_) (fun hc7 => ?_)
      · have hc7_ := hc7
        try simp only [decide_eq_true_eq, decide_eq_false_iff_not, Bool.and_eq_true, Bool.or_eq_true, Bool.and_eq_false_iff, Bool.or_eq_false_iff, Bool.not_eq_true', Bool.not_eq_false', beq_iff_eq, beq_eq_false_iff_ne, bne_iff_ne, bne_eq_false_iff_eq, ne_eq, Int.not_lt, Int.not_le, gt_iff_lt, ge_iff_le] at hc7_
        have hfneg : findJ i t (ts es) idx (ts l) 0 < 0 := of_decide_eq_true hc7
        refine CW.seq ?_
        refine CW.region ?_
        refine RW.soft Wd.a (v := .int .i64 (idx + ((l.length : Nat) : Int))) (by exact E.move (AF_ev rfl hs8)) ?_
        refine RW.soft Wd.a (v := .int .i64 (idx + ((l.length : Nat) : Int))) (by exact E.assign (AF_ev rfl tp)) ?_
        refine RW.soft Wd.a (v := .int .i64 0) (by exact E.assign rfl) ?_
        refine RW.soft Wd.a (v := .bool true) (by exact E.assign rfl) ?_
        refine RW.fin (fun τ => τ 0 = .pointer (some ⟨b, 0, none⟩) ∧ τ 1 = .int .i64 idx ∧ τ 2 = .int .i64 tm ∧ τ 3 = .slice XL l.length cl ∧ τ 4 = .pointer (some ⟨b1, 0, none⟩) ∧ τ 5 = .pointer (some ⟨b2, 0, none⟩) ∧ τ 8 = .int .i64 (idx + ((l.length : Nat) : Int)) ∧ τ 9 = .int .i64 0 ∧ τ 10 = .bool true ∧ τ 11 = .int .i64 (termT i t (ts es) idx) ∧ τ 12 = .int .i64 (termE i (ts es) idx) ∧ τ 13 = .func (.func 68) #[] #[.pointer (some ⟨b2, 0, none⟩), .pointer (some ⟨b1, 0, none⟩)] ∧ τ 14 = .int .i64 (findJ i t (ts es) idx (ts l) 0) ∧ τ 18 = .bool false ∧ τ 33 = .bool false ∧ τ 67 = .bool true) ⟨up rfl (up rfl (up rfl (up rfl hs0))), up rfl (up rfl (up rfl (up rfl hs1))), up rfl (up rfl (up rfl (up rfl hs2))), up rfl (up rfl (up rfl (up rfl hs3))), up rfl (up rfl (up rfl (up rfl hs4))), up rfl (up rfl (up rfl (up rfl hs5))), up rfl (up rfl tp), up rfl tp, tp, up rfl (up rfl (up rfl (up rfl hs11))), up rfl (up rfl (up rfl (up rfl hs12))), up rfl (up rfl (up rfl (up rfl hs13))), up rfl (up rfl (up rfl (up rfl hs14))), up rfl (up rfl (up rfl (up rfl hs18))), up rfl (up rfl (up rfl (up rfl hs33))), up rfl (up rfl (up rfl (up rfl (Eq.trans hs67 (congrArg Value.bool hc7)))))⟩ ?_
        rintro τ ⟨hs0, hs1, hs2, hs3, hs4, hs5, hs8, hs9, hs10, hs11, hs12, hs13, hs14, hs18, hs33, hs67⟩
        refine CW.ret ?_
        refine Th.r ?_
        refine retN (rs := [.tmp 8, .tmp 9, .tmp 10]) (vs := [.int .i64 (idx + ((l.length : Nat) : Int)), .int .i64 0, .bool true]) rfl (by exact (.tmp (AF_ev rfl hs8) (.tmp (AF_ev rfl hs9) (.tmp (AF_ev rfl hs10) .nil)))) (by simp) ?_
        have hst := hst.take (.there (.there (.there (.there .here))))
        have hst := hst.take (.there (.there (.there (.there .here))))
        have hst := hst.take (.there (.there (.there (.there .here))))
        have hst := (hst.take (.there (.there (.there .here)))).drop
        have hst := (hst.take (.there (.there (.there .here)))).drop
        have hnl : ¬ idx > i + ((ts es).length : Nat) := by rw [ts_len]; omega
        exact ⟨p, es, p.le_refl, by unfold joinA joinF joinO; rw [if_neg hnl, if_neg hnl, if_neg hnl, if_neg hcl, if_neg hcl, if_neg hcl, if_pos hfneg, ts_len], by unfold joinL; rw [if_neg hnl, if_neg hcl, if_pos hfneg], logClose hi (by omega) hE hst⟩
      · have hc7_ := hc7
        try simp only [decide_eq_true_eq, decide_eq_false_iff_not, Bool.and_eq_true, Bool.or_eq_true, Bool.and_eq_false_iff, Bool.or_eq_false_iff, Bool.not_eq_true', Bool.not_eq_false', beq_iff_eq, beq_eq_false_iff_ne, bne_iff_ne, bne_eq_false_iff_eq, ne_eq, Int.not_lt, Int.not_le, gt_iff_lt, ge_iff_le] at hc7_
        have hfpos : ¬ findJ i t (ts es) idx (ts l) 0 < 0 := of_decide_eq_false hc7
        refine CW.skip ?_
        refine Th.n ?_
        refine CW.seq ?_
        have hsp := findJ_spec (i := i) (t := t) (idx := idx) (T := ts es) (ts l) 0 (by omega) (by omega) (by omega)
        have hEnd : endJ i t (ts es) idx (ts l) = idx + findJ i t (ts es) idx (ts l) 0 + 1 := by unfold endJ; rw [if_neg (by omega)]
        have hnc := St_nilcap (hst.take (.there (.there (.there .here))))
        obtain ⟨b0, o0, rfl, hcell0⟩ := hA.place (hst.take (.there (.there (.there (.there .here))))) (by omega)
        have hlcl := ((hA.src (hst.take (.there (.there (.there (.there .here)))))).len).2.1
        obtain ⟨off, hoff⟩ : ∃ z, z = if (findJ i t (ts es) idx (ts l) 0).toNat = cl then o0 else o0 + (findJ i t (ts es) idx (ts l) 0).toNat * 4 := ⟨_, rfl⟩
        have hlow : Tells p A 4 (.slice (some ⟨b0, off, none⟩) (l.drop (findJ i t (ts es) idx (ts l) 0).toNat).length (cl - (findJ i t (ts es) idx (ts l) 0).toNat)) (l.drop (findJ i t (ts es) idx (ts l) 0).toNat).length (flat (l.drop (findJ i t (ts es) idx (ts l) 0).toNat)) := fun q w H l2 s => by
          have z := (hA q w H l2 s).lower (k := (findJ i t (ts es) idx (ts l) 0).toNat) (by omega)
          rw [flat_drop, ← hoff, ← List.length_drop] at z; exact z
        have hEl := hEL.drop (findJ i t (ts es) idx (ts l) 0).toNat
        have hld : (l.drop (findJ i t (ts es) idx (ts l) 0).toNat).length ≤ 1000000 := by rw [List.length_drop]; omega
        have hle0 := p.le_refl
        refine CW.regionD [0, 1, 2, 3, 4, 5, 6, 11, 12, 13] (fun w => w.cell? ⟨b1, 0, none⟩ = some (.pointer (some ⟨b, 0, none⟩)) ∧ w.cell? ⟨b, 2, none⟩ = some (.slice X es.length c) ∧ w.cell? ⟨b2, 0, none⟩ = some (.int .i64 (endJ i t (ts es) idx (ts l)))) mixed ?_
        have hst := hst.drew
        generalize w.drew = w at hst ⊢
        have hS : w.cell? ⟨b1, 0, none⟩ = some (.pointer (some ⟨b, 0, none⟩)) ∧ w.cell? ⟨b, 2, none⟩ = some (.slice X es.length c) ∧ w.cell? ⟨b2, 0, none⟩ = some (.int .i64 (endJ i t (ts es) idx (ts l))) := ⟨hst.cell (.there .here) rfl, hst.cell (.there (.there .here)) rfl, hst.cell .here rfl⟩
        refine RD.take 0 rfl (by kernel_rfl) Wd.a (v := .pointer (some ⟨b, 0, none⟩)) (fun w hS => by exact E.load (a := ⟨b1, 0, none⟩) Try.underlying47 rfl (AF_ev rfl hs4) hS.1) hS ?_
        refine RD.take 1 rfl (by kernel_rfl) Wd.a (v := .pointer (some ⟨b, 0, none⟩)) (fun w hS => by exact E.load (a := ⟨b1, 0, none⟩) Try.underlying47 rfl (AF_ev rfl (up rfl hs4)) hS.1) hS ?_
        refine RD.take 2 rfl (by kernel_rfl) Wd.a (v := .pointer (some ⟨b, 0, none⟩)) (fun w hS => by exact E.nilCheck (a := ⟨b, 0, none⟩) (AF_ev rfl tp)) hS ?_
        refine RD.take 3 rfl (by kernel_rfl) Wd.a (v := .pointer (some ⟨b, 2, none⟩)) (fun w hS => by exact E.fieldAddr (b := b) (o := 0) (f := { name := "l", type := 44, offset := 2, embedded := false, tag := "", pkgPath := "strongroom/entries", byteOffset := 16 }) (AF_ev rfl tp) Try.underlying122 rfl sz44 rfl) hS ?_
        refine RD.take 4 rfl (by kernel_rfl) Wd.a (v := .slice X es.length c) (fun w hS => by exact E.load (a := ⟨b, 2, none⟩) Try.underlying44 rfl (AF_ev rfl tp) hS.2.1) hS ?_
        refine RD.take 5 rfl (by kernel_rfl) Wd.a (v := .int .i64 (endJ i t (ts es) idx (ts l))) (fun w hS => by exact E.load (a := ⟨b2, 0, none⟩) Try.underlying3 rfl (AF_ev rfl (up rfl (up rfl (up rfl (up rfl (up rfl hs5)))))) hS.2.2) hS ?_
        refine RD.take 6 rfl (by kernel_rfl) Wd.a (v := .pointer (some ⟨b, 0, none⟩)) (fun w hS => by exact E.load (a := ⟨b1, 0, none⟩) Try.underlying47 rfl (AF_ev rfl (up rfl (up rfl (up rfl (up rfl (up rfl (up rfl hs4))))))) hS.1) hS ?_
        refine RD.take 11 rfl (by kernel_rfl) Wd.a (v := .slice (some ⟨b0, o0, none⟩) l.length cl) (fun w hS => by exact E.move (AF_ev rfl (up rfl (up rfl (up rfl (up rfl (up rfl (up rfl (up rfl hs3))))))))) hS ?_
        refine RD.take 12 rfl (by kernel_rfl) Wd.a (v := .int .i64 (findJ i t (ts es) idx (ts l) 0)) (fun w hS => by exact E.move (AF_ev rfl (up rfl (up rfl (up rfl (up rfl (up rfl (up rfl (up rfl (up rfl hs14)))))))))) hS ?_
        refine RD.take 13 rfl (by kernel_rfl) Wd.a (v := .slice (some ⟨b0, off, none⟩) ((l.drop (findJ i t (ts es) idx (ts l) 0).toNat).length) (cl - (findJ i t (ts es) idx (ts l) 0).toNat)) (fun w hS => by exact E.slice (i := (findJ i t (ts es) idx (ts l) 0).toNat) (j := l.length) Try.underlying44 sz58 (AF_ev rfl (up rfl tp)) (int_eq (a := findJ i t (ts es) idx (ts l) 0) (AF_ev rfl tp) (by omega)) rfl (by omega) (by omega) (by rw [hoff, List.length_drop])) hS ?_
        refine RD.only 7 rfl (by kernel_rfl) Wd.a ?_
        have hst := hst.take (.there (.there .here))
        refine H.call0 Try.func31 nm31 rfl (map1 (AF_ev rfl (up rfl (up rfl (up rfl tp))))) (Calls.mono (ent_First (by omega) (by omega) hst) ?_)
        rintro _ w ⟨rfl, hst⟩
        refine ⟨_, rfl, ?_⟩
        have hS : w.cell? ⟨b1, 0, none⟩ = some (.pointer (some ⟨b, 0, none⟩)) ∧ w.cell? ⟨b, 2, none⟩ = some (.slice X es.length c) ∧ w.cell? ⟨b2, 0, none⟩ = some (.int .i64 (endJ i t (ts es) idx (ts l))) := ⟨hst.cell (.there (.there .here)) rfl, hst.cell .here rfl, hst.cell (.there .here) rfl⟩
        refine ⟨fun _ => hS, ?_⟩
        refine RD.only 8 rfl (by kernel_rfl) Wd.a (Hd.value (v := .int .i64 (endJ i t (ts es) idx (ts l) - (i + 1))) (by exact E.sub (k := .i64) (a := endJ i t (ts es) idx (ts l)) (b := i + 1) (AF_ev rfl (up rfl (up rfl (up rfl (up rfl (up rfl tp)))))) (AF_ev rfl tp) (show IntKind.i64.wrap ((endJ i t (ts es) idx (ts l)) - (i + 1)) = endJ i t (ts es) idx (ts l) - (i + 1) from (by rw [IntWalk.i64_in _ (by omega)] <;> omega))) ⟨fun _ => hS, ?_⟩)
        refine RD.only 9 rfl (by kernel_rfl) Wd.a (Hd.value (v := .slice X ((endJ i t (ts es) idx (ts l) - (i + 1)).toNat) c) (by exact E_sliceTo (X := X) (l := es.length) (c := c) (j := (endJ i t (ts es) idx (ts l) - (i + 1)).toNat) Try.underlying44 sz58 (AF_ev rfl (up rfl (up rfl (up rfl (up rfl (up rfl (up rfl (up rfl tp)))))))) (int_eq (a := endJ i t (ts es) idx (ts l) - (i + 1)) (AF_ev rfl tp) (by omega)) (by omega) hnc) ⟨fun _ => hS, ?_⟩)
        refine RD.only 10 rfl (by kernel_rfl) Wd.a ?_
        have hst := hst.take (.there (.there (.there .here)))
        refine H.call0 Try.func67 nm67 rfl (map1 (AF_ev rfl tp)) (Calls.mono (clone_ents (A := Own 58 4 (.slice X es.length c) es.length (flat es)) (fun w H s => by have q := (Own.src s).take (k := (endJ i t (ts es) idx (ts l) - (i + 1)).toNat) (by omega); rw [flat_take] at q; exact q) (flat_one _) (by omega) hst) ?_)
        rintro _ w ⟨vX8, rfl, hnX8, hst⟩
        obtain ⟨X8, c9, rfl, hcX8, hmX8, hlX8, hbX8⟩ := hst.shape
        refine ⟨_, rfl, ?_⟩
        have hS : w.cell? ⟨b1, 0, none⟩ = some (.pointer (some ⟨b, 0, none⟩)) ∧ w.cell? ⟨b, 2, none⟩ = some (.slice X es.length c) ∧ w.cell? ⟨b2, 0, none⟩ = some (.int .i64 (endJ i t (ts es) idx (ts l))) := ⟨hst.cell (.there (.there (.there (.there .here)))) rfl, hst.cell (.there (.there .here)) rfl, hst.cell (.there (.there (.there .here))) rfl⟩
        refine ⟨fun _ => hS, ?_⟩
        refine RD.only 14 rfl (by kernel_rfl) Wd.a ?_
        have hst := hst.take (.there (.there (.there (.there (.there .here)))))
        refine H.call0 Try.func66 nm66 rfl (map1 (AF_ev rfl (up rfl (up rfl (up rfl (up rfl tp)))))) (Calls.mono (ent_own_ hlow hEl hld p.le_refl hst) ?_)
        rintro _ w ⟨p, vX10, es12, hle, rfl, hokes12, hvses12, hst⟩
        have hle0 := hle
        obtain ⟨X10, c11, rfl, hcX10, hmX10, hlX10, hbX10⟩ := hst.shape
        have hE := hE.le hle
        have hvles12 := vs_len hvses12
        refine ⟨_, rfl, ?_⟩
        have hS : w.cell? ⟨b1, 0, none⟩ = some (.pointer (some ⟨b, 0, none⟩)) ∧ w.cell? ⟨b, 2, none⟩ = some (.slice X es.length c) ∧ w.cell? ⟨b2, 0, none⟩ = some (.int .i64 (endJ i t (ts es) idx (ts l))) := ⟨hst.cell (.there (.there (.there (.there (.there (.there .here)))))) rfl, hst.cell (.there (.there (.there (.there .here)))) rfl, hst.cell (.there (.there (.there (.there (.there .here))))) rfl⟩
        refine ⟨fun _ => hS, ?_⟩
        refine RD.only 15 rfl (by kernel_rfl) Wd.a ?_
        refine H.append2 (n2 := (endJ i t (ts es) idx (ts l) - (i + 1)).toNat + es12.length) (xs2 := (flat (es.take (endJ i t (ts es) idx (ts l) - (i + 1)).toNat)) ++ (flat es12)) (by first | rfl | simp) (by first | rfl | simp) (m := es12.length) (news := flat es12) (s0 := .slice X8 ((endJ i t (ts es) idx (ts l) - (i + 1)).toNat) c9) (x0 := .slice X10 es12.length c11) Try.underlying44 inf58 rfl (AF_ev rfl (up rfl tp)) (AF_ev rfl tp) hst (.there (.there .here)) (Own.src (hst.take .here)) (flat_one _) (by omega) (by simp only [maxLen]; omega) ?_
        intro vX13 w hnilX13 hst
        obtain ⟨X13, c14, rfl, hcX13, hmX13, hlX13, hbX13⟩ := hst.shape
        have hS : w.cell? ⟨b1, 0, none⟩ = some (.pointer (some ⟨b, 0, none⟩)) ∧ w.cell? ⟨b, 2, none⟩ = some (.slice X es.length c) ∧ w.cell? ⟨b2, 0, none⟩ = some (.int .i64 (endJ i t (ts es) idx (ts l))) := ⟨hst.cell (.there (.there (.there (.there (.there (.there .here)))))) rfl, hst.cell (.there (.there (.there (.there .here)))) rfl, hst.cell (.there (.there (.there (.there (.there .here))))) rfl⟩
        refine ⟨fun _ => hS, ?_⟩
        refine RD.only 16 rfl (by kernel_rfl) Wd.a (Hd.value (v := .pointer (some ⟨b, 0, none⟩)) (by exact E.nilCheck (a := ⟨b, 0, none⟩) (AF_ev rfl (up rfl (up rfl (up rfl (up rfl (up rfl (up rfl (up rfl (up rfl (up rfl (up rfl (up rfl (up rfl (up rfl (up rfl (up rfl tp))))))))))))))))) ⟨fun h => Bool.noConfusion ((show needs _ _ _ = false by kernel_rfl).symm.trans h), ?_⟩)
        refine RD.only 17 rfl (by kernel_rfl) Wd.a (Hd.value (v := .pointer (some ⟨b, 2, none⟩)) (by exact E.fieldAddr (b := b) (o := 0) (f := { name := "l", type := 44, offset := 2, embedded := false, tag := "", pkgPath := "strongroom/entries", byteOffset := 16 }) (AF_ev rfl tp) Try.underlying122 rfl sz44 rfl) ⟨fun h => Bool.noConfusion ((show needs _ _ _ = false by kernel_rfl).symm.trans h), ?_⟩)
        refine RD.only 18 rfl (by kernel_rfl) Wd.a ?_
        refine H.store (b := b) (o := 2) (v := .slice X13 ((endJ i t (ts es) idx (ts l) - (i + 1)).toNat + es12.length) c14) (c' := #[.int .i64 i, .int .i64 t, .slice X13 ((endJ i t (ts es) idx (ts l) - (i + 1)).toNat + es12.length) c14]) (AF_ev rfl tp) (AF_ev rfl (up rfl (up rfl tp))) hst (.there (.there (.there (.there .here)))) sz44 (by simp [Value.cells]) (by simp [Value.cells, Value.oneCell']) rfl fun w hst => ?_
        refine ⟨fun h => Bool.noConfusion ((show needs _ _ _ = false by kernel_rfl).symm.trans h), ?_⟩
        refine RD.fin (by kernel_rfl) (fun τ => τ 0 = .pointer (some ⟨b, 0, none⟩) ∧ τ 1 = .int .i64 idx ∧ τ 2 = .int .i64 tm ∧ τ 3 = .slice (some ⟨b0, o0, none⟩) l.length cl ∧ τ 4 = .pointer (some ⟨b1, 0, none⟩) ∧ τ 5 = .pointer (some ⟨b2, 0, none⟩) ∧ τ 8 = .int .i64 (idx + ((l.length : Nat) : Int)) ∧ τ 9 = .int .i64 0 ∧ τ 10 = .bool false ∧ τ 11 = .int .i64 (termT i t (ts es) idx) ∧ τ 12 = .int .i64 (termE i (ts es) idx) ∧ τ 13 = .func (.func 68) #[] #[.pointer (some ⟨b2, 0, none⟩), .pointer (some ⟨b1, 0, none⟩)] ∧ τ 14 = .int .i64 (findJ i t (ts es) idx (ts l) 0) ∧ τ 18 = .bool false ∧ τ 33 = .bool false ∧ τ 67 = .bool false) ⟨u0 (up rfl (up rfl (up rfl (up rfl (up rfl (up rfl (up rfl (up rfl (up rfl (up rfl (up rfl (up rfl (up rfl (up rfl (up rfl (up rfl (up rfl (up rfl hs0)))))))))))))))))), u0 (up rfl (up rfl (up rfl (up rfl (up rfl (up rfl (up rfl (up rfl (up rfl (up rfl (up rfl (up rfl (up rfl (up rfl (up rfl (up rfl (up rfl (up rfl hs1)))))))))))))))))), u0 (up rfl (up rfl (up rfl (up rfl (up rfl (up rfl (up rfl (up rfl (up rfl (up rfl (up rfl (up rfl (up rfl (up rfl (up rfl (up rfl (up rfl (up rfl hs2)))))))))))))))))), u0 (up rfl (up rfl (up rfl (up rfl (up rfl (up rfl (up rfl (up rfl (up rfl (up rfl (up rfl (up rfl (up rfl (up rfl (up rfl (up rfl (up rfl (up rfl hs3)))))))))))))))))), u0 (up rfl (up rfl (up rfl (up rfl (up rfl (up rfl (up rfl (up rfl (up rfl (up rfl (up rfl (up rfl (up rfl (up rfl (up rfl (up rfl (up rfl (up rfl hs4)))))))))))))))))), u0 (up rfl (up rfl (up rfl (up rfl (up rfl (up rfl (up rfl (up rfl (up rfl (up rfl (up rfl (up rfl (up rfl (up rfl (up rfl (up rfl (up rfl (up rfl hs5)))))))))))))))))), u0 (up rfl (up rfl (up rfl (up rfl (up rfl (up rfl (up rfl (up rfl (up rfl (up rfl (up rfl (up rfl (up rfl (up rfl (up rfl (up rfl (up rfl (up rfl hs8)))))))))))))))))), u0 (up rfl (up rfl (up rfl (up rfl (up rfl (up rfl (up rfl (up rfl (up rfl (up rfl (up rfl (up rfl (up rfl (up rfl (up rfl (up rfl (up rfl (up rfl hs9)))))))))))))))))), u0 (up rfl (up rfl (up rfl (up rfl (up rfl (up rfl (up rfl (up rfl (up rfl (up rfl (up rfl (up rfl (up rfl (up rfl (up rfl (up rfl (up rfl (up rfl hs10)))))))))))))))))), u0 (up rfl (up rfl (up rfl (up rfl (up rfl (up rfl (up rfl (up rfl (up rfl (up rfl (up rfl (up rfl (up rfl (up rfl (up rfl (up rfl (up rfl (up rfl hs11)))))))))))))))))), u0 (up rfl (up rfl (up rfl (up rfl (up rfl (up rfl (up rfl (up rfl (up rfl (up rfl (up rfl (up rfl (up rfl (up rfl (up rfl (up rfl (up rfl (up rfl hs12)))))))))))))))))), u0 (up rfl (up rfl (up rfl (up rfl (up rfl (up rfl (up rfl (up rfl (up rfl (up rfl (up rfl (up rfl (up rfl (up rfl (up rfl (up rfl (up rfl (up rfl hs13)))))))))))))))))), u0 (up rfl (up rfl (up rfl (up rfl (up rfl (up rfl (up rfl (up rfl (up rfl (up rfl (up rfl (up rfl (up rfl (up rfl (up rfl (up rfl (up rfl (up rfl hs14)))))))))))))))))), u0 (up rfl (up rfl (up rfl (up rfl (up rfl (up rfl (up rfl (up rfl (up rfl (up rfl (up rfl (up rfl (up rfl (up rfl (up rfl (up rfl (up rfl (up rfl hs18)))))))))))))))))), u0 (up rfl (up rfl (up rfl (up rfl (up rfl (up rfl (up rfl (up rfl (up rfl (up rfl (up rfl (up rfl (up rfl (up rfl (up rfl (up rfl (up rfl (up rfl hs33)))))))))))))))))), u0 (up rfl (up rfl (up rfl (up rfl (up rfl (up rfl (up rfl (up rfl (up rfl (up rfl (up rfl (up rfl (up rfl (up rfl (up rfl (up rfl (up rfl (up rfl (Eq.trans hs67 (congrArg Value.bool hc7))))))))))))))))))))⟩ ?_
        rintro τ ⟨hs0, hs1, hs2, hs3, hs4, hs5, hs8, hs9, hs10, hs11, hs12, hs13, hs14, hs18, hs33, hs67⟩
        refine CW.seq ?_
        refine CW.regionD [0, 1, 2, 3, 4] (fun w => w.cell? ⟨b2, 0, none⟩ = some (.int .i64 (endJ i t (ts es) idx (ts l)))) mixed ?_
        have hst := hst.drew
        generalize w.drew = w at hst ⊢
        have hS : w.cell? ⟨b2, 0, none⟩ = some (.int .i64 (endJ i t (ts es) idx (ts l))) := hst.cell (.there (.there (.there (.there (.there .here))))) rfl
        refine RD.take 0 rfl (by kernel_rfl) Wd.a (v := .int .i64 (idx + ((l.length : Nat) : Int))) (fun w hS => by exact E.move (AF_ev rfl hs8)) hS ?_
        refine RD.take 1 rfl (by kernel_rfl) Wd.a (v := .int .i64 (endJ i t (ts es) idx (ts l))) (fun w hS => by exact E.load (a := ⟨b2, 0, none⟩) Try.underlying3 rfl (AF_ev rfl (up rfl hs5)) hS) hS ?_
        refine RD.take 2 rfl (by kernel_rfl) Wd.a (v := .int .i64 (idx + ((l.length : Nat) : Int))) (fun w hS => by exact E.assign (AF_ev rfl (up rfl tp))) hS ?_
        refine RD.take 3 rfl (by kernel_rfl) Wd.a (v := .int .i64 (endJ i t (ts es) idx (ts l))) (fun w hS => by exact E.assign (AF_ev rfl (up rfl tp))) hS ?_
        refine RD.take 4 rfl (by kernel_rfl) Wd.a (v := .bool true) (fun w hS => by exact E.assign rfl) hS ?_
        refine RD.fin (by kernel_rfl) (fun τ => τ 0 = .pointer (some ⟨b, 0, none⟩) ∧ τ 1 = .int .i64 idx ∧ τ 2 = .int .i64 tm ∧ τ 3 = .slice (some ⟨b0, o0, none⟩) l.length cl ∧ τ 4 = .pointer (some ⟨b1, 0, none⟩) ∧ τ 5 = .pointer (some ⟨b2, 0, none⟩) ∧ τ 8 = .int .i64 (idx + ((l.length : Nat) : Int)) ∧ τ 9 = .int .i64 (endJ i t (ts es) idx (ts l)) ∧ τ 10 = .bool true ∧ τ 11 = .int .i64 (termT i t (ts es) idx) ∧ τ 12 = .int .i64 (termE i (ts es) idx) ∧ τ 13 = .func (.func 68) #[] #[.pointer (some ⟨b2, 0, none⟩), .pointer (some ⟨b1, 0, none⟩)] ∧ τ 14 = .int .i64 (findJ i t (ts es) idx (ts l) 0) ∧ τ 18 = .bool false ∧ τ 33 = .bool false ∧ τ 67 = .bool false) ⟨up rfl (up rfl (up rfl (up rfl (up rfl hs0)))), up rfl (up rfl (up rfl (up rfl (up rfl hs1)))), up rfl (up rfl (up rfl (up rfl (up rfl hs2)))), up rfl (up rfl (up rfl (up rfl (up rfl hs3)))), up rfl (up rfl (up rfl (up rfl (up rfl hs4)))), up rfl (up rfl (up rfl (up rfl (up rfl hs5)))), up rfl (up rfl tp), up rfl tp, tp, up rfl (up rfl (up rfl (up rfl (up rfl hs11)))), up rfl (up rfl (up rfl (up rfl (up rfl hs12)))), up rfl (up rfl (up rfl (up rfl (up rfl hs13)))), up rfl (up rfl (up rfl (up rfl (up rfl hs14)))), up rfl (up rfl (up rfl (up rfl (up rfl hs18)))), up rfl (up rfl (up rfl (up rfl (up rfl hs33)))), up rfl (up rfl (up rfl (up rfl (up rfl hs67))))⟩ ?_
        rintro τ ⟨hs0, hs1, hs2, hs3, hs4, hs5, hs8, hs9, hs10, hs11, hs12, hs13, hs14, hs18, hs33, hs67⟩
        refine CW.ret ?_
        refine retN (rs := [.tmp 8, .tmp 9, .tmp 10]) (vs := [.int .i64 (idx + ((l.length : Nat) : Int)), .int .i64 (endJ i t (ts es) idx (ts l)), .bool true]) rfl (by exact (.tmp (AF_ev rfl hs8) (.tmp (AF_ev rfl hs9) (.tmp (AF_ev rfl hs10) .nil)))) (by simp) ?_
        have hst := hst.take (.there (.there .here))
        have hst := hst.take (.there .here)
        have hst := hst.take (.there (.there (.there (.there .here))))
        have hst := (hst.take (.there (.there (.there .here)))).drop
        have hst := (hst.take (.there (.there (.there .here)))).drop
        have hst := (hst.take (.there (.there (.there .here)))).drop
        have hst := (hst.take (.there (.there (.there .here)))).drop
        have hnl : ¬ idx > i + ((ts es).length : Nat) := by rw [ts_len]; omega
        have hnf : ¬ findJ i t (ts es) idx (ts l) 0 < 0 := by omega
        have hlj : (es.take ((endJ i t (ts es) idx (ts l)) - (i + 1)).toNat).length = ((endJ i t (ts es) idx (ts l)) - (i + 1)).toNat := by rw [List.length_take]; omega
        have hl2 := vs_len hvses12
        rw [List.length_drop] at hl2
        have hlN : (es.take ((endJ i t (ts es) idx (ts l)) - (i + 1)).toNat ++ es12).length = ((endJ i t (ts es) idx (ts l)) - (i + 1)).toNat + es12.length := by rw [List.length_append, hlj]
        have hst : St p w (pt b (.cells #[.int .i64 i, .int .i64 t, .slice X13 (es.take ((endJ i t (ts es) idx (ts l)) - (i + 1)).toNat ++ es12).length c14] 122) :: Own 58 4 (.slice X13 (es.take ((endJ i t (ts es) idx (ts l)) - (i + 1)).toNat ++ es12).length c14) (es.take ((endJ i t (ts es) idx (ts l)) - (i + 1)).toNat ++ es12).length (flat (es.take ((endJ i t (ts es) idx (ts l)) - (i + 1)).toNat ++ es12)) :: A :: R) := by rw [hlN, flat_append]; exact hst
        refine ⟨p, _, hle0, by unfold joinA joinF joinO; rw [if_neg hnl, if_neg hnl, if_neg hnl, if_neg hcl, if_neg hcl, if_neg hcl, if_neg hnf, ts_len, hEnd], ?_, logClose hi (by omega) ((hE.take _).append hokes12) hst⟩
        unfold joinL
        rw [if_neg hnl, if_neg hcl, if_neg hnf, ← hEnd]
        have q : vs (es.take ((endJ i t (ts es) idx (ts l)) - (i + 1)).toNat ++ es12) = vs (es.take ((endJ i t (ts es) idx (ts l)) - (i + 1)).toNat) ++ vs es12 := by simp [vs]
        rw [q, hvses12]; simp [vs, List.map_take, List.map_drop]
end Go.Proofs.Ytdlcjoonhojpfaa
