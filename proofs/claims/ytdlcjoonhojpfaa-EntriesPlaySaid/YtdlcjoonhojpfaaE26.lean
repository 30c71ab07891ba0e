/- The calls of the package entries, walked through operation by operation. -/
import Derived.Test.YtdlcjoonhojpfaaE0
import Derived.Test.YtdlcjoonhojpfaaT1
import Derived.Test.YtdlcjoonhojpfaaE1
import Derived.Test.YtdlcjoonhojpfaaE2
import Derived.Test.YtdlcjoonhojpfaaE3
import Derived.Test.YtdlcjoonhojpfaaE4
import Derived.Test.YtdlcjoonhojpfaaE5
import Derived.Test.YtdlcjoonhojpfaaE6
import Derived.Test.YtdlcjoonhojpfaaE9
import Derived.Test.YtdlcjoonhojpfaaE10
import Derived.Test.YtdlcjoonhojpfaaE11
import Derived.Test.YtdlcjoonhojpfaaE14
import Derived.Test.YtdlcjoonhojpfaaE15
import Derived.Test.YtdlcjoonhojpfaaE16
import Derived.Test.YtdlcjoonhojpfaaE22
import Derived.Test.YtdlcjoonhojpfaaE23
import Derived.Test.YtdlcjoonhojpfaaE24
import Derived.Test.YtdlcjoonhojpfaaE25
namespace Go.Proofs.Ytdlcjoonhojpfaa
open Go.RowKit Go.SL Go.E17
attribute [local irreducible] Go.SL.RW Go.SL.CW Go.SL.RD Go.SL.Hd Go.SL.St
set_option linter.unusedVariables false
set_option linter.unusedSimpArgs false



set_option maxHeartbeats 2000000 in
theorem ref_Join {p : Pers} {w : World} {R : List Assn} {b : Nat} {i t : Int} {es : List Ent} {A : Assn} {XL : Option Addr} {cl : Nat} {l : List Ent} (idx tm : Int) (hidx : -9223372036854775808 ≤ idx ∧ idx ≤ 9223372036854775807) (hl : es.length + l.length ≤ 1000000) (hA : Tells p A 4 (.slice XL l.length cl) l.length (flat l)) (hEL : EsOk p l) (hst : St p w (RefB p b i t es :: A :: R)) :
    Calls Try.prog 81 #[.pointer (some ⟨b, 0, none⟩), .int .i64 idx, .int .i64 tm, .slice XL l.length cl] w fun e w => e = .returned (.tuple #[.int .i64 (joinA i t (ts es) idx tm (ts l)), .int .i64 (joinF i t (ts es) idx tm (ts l)), .bool (joinO i t (ts es) idx tm)]) ∧ St p w (RefB p b i t (joinL i t (ts es) idx tm (ts l) es l) :: A :: R) := by
  obtain ⟨X, c, hi, hn, hE, hcc, hX, hst⟩ := refOpen hst
  refine enter Try.func81 rfl (by simp) (n := 131) rfl fun τ hτ => ?_
  have hs0 : τ 0 = .pointer (some ⟨b, 0, none⟩) := hτ 0 (by simp)
  have hs1 : τ 1 = .int .i64 idx := hτ 1 (by simp)
  have hs2 : τ 2 = .int .i64 tm := hτ 2 (by simp)
  have hs3 : τ 3 = .slice XL l.length cl := hτ 3 (by simp)
  clear hτ
  refine CW.seq ?_
  refine CW.region ?_
  refine RW.soft Wd.a (v := .int .i64 0) (by exact E.assign rfl) ?_
  refine RW.soft Wd.a (v := .int .i64 0) (by exact E.assign rfl) ?_
  refine RW.soft Wd.a (v := .bool false) (by exact E.assign rfl) ?_
  refine RW.fin (fun τ => τ 0 = .pointer (some ⟨b, 0, none⟩) ∧ τ 1 = .int .i64 idx ∧ τ 2 = .int .i64 tm ∧ τ 3 = .slice XL l.length cl ∧ τ 8 = .int .i64 0 ∧ τ 9 = .int .i64 0 ∧ τ 10 = .bool false) ⟨up rfl (up rfl (up rfl hs0)), up rfl (up rfl (up rfl hs1)), up rfl (up rfl (up rfl hs2)), up rfl (up rfl (up rfl hs3)), up rfl (up rfl tp), up rfl tp, tp⟩ ?_
  rintro τ ⟨hs0, hs1, hs2, hs3, hs8, hs9, hs10⟩
  refine CW.seq ?_
  refine CW.seq ?_
  refine CW.region ?_
  refine RW.soft Wd.a (v := .int .i64 idx) (by exact E.move (AF_ev rfl hs1)) ?_
  refine RW.soft Wd.a (v := .pointer (some ⟨b, 0, none⟩)) (by exact E.move (AF_ev rfl (up rfl hs0))) ?_
  refine RW.hard Wd.a ?_
  refine H.call0 Try.func58 nm58 rfl (map1 (AF_ev rfl tp)) (Calls.mono (ref_Last (by omega) (by omega) hst) ?_)
  rintro _ w ⟨rfl, hst⟩
  refine ⟨_, rfl, ?_⟩
  show RW _ _ _ _ _ _ _
  refine RW.soft Wd.a (v := .bool (decide (idx > (i + ((es.length : Nat) : Int))))) (by exact E.gtr (k := .i64) (a := idx) (b := i + ((es.length : Nat) : Int)) (AF_ev rfl (up rfl (up rfl tp))) (AF_ev rfl tp)) ?_
  refine RW.fin (fun τ => τ 0 = .pointer (some ⟨b, 0, none⟩) ∧ τ 1 = .int .i64 idx ∧ τ 2 = .int .i64 tm ∧ τ 3 = .slice XL l.length cl ∧ τ 8 = .int .i64 0 ∧ τ 9 = .int .i64 0 ∧ τ 10 = .bool false ∧ τ 21 = .bool (decide (idx > (i + ((es.length : Nat) : Int))))) ⟨up rfl (up rfl (up rfl (up rfl hs0))), up rfl (up rfl (up rfl (up rfl hs1))), up rfl (up rfl (up rfl (up rfl hs2))), up rfl (up rfl (up rfl (up rfl hs3))), up rfl (up rfl (up rfl (up rfl hs8))), up rfl (up rfl (up rfl (up rfl hs9))), up rfl (up rfl (up rfl (up rfl hs10))), tp⟩ ?_
  rintro τ ⟨hs0, hs1, hs2, hs3, hs8, hs9, hs10, hs21⟩
  refine CW.cond (AF_ev rfl hs21) (fun hc1 => ?_) (fun hc1 => ?_)
  · have hc1_ := hc1
    try simp only [decide_eq_true_eq, decide_eq_false_iff_not, Bool.and_eq_true, Bool.or_eq_true, Bool.and_eq_false_iff, Bool.or_eq_false_iff, Bool.not_eq_true', Bool.not_eq_false', beq_iff_eq, beq_eq_false_iff_ne, bne_iff_ne, bne_eq_false_iff_eq, ne_eq, Int.not_lt, Int.not_le, gt_iff_lt, ge_iff_le] at hc1_
    have hfar := of_decide_eq_true hc1
    refine CW.seq ?_
    refine CW.region ?_
    refine RW.soft Wd.a (v := .pointer (some ⟨b, 0, none⟩)) (by exact E.move (AF_ev rfl hs0)) ?_
    refine RW.hard Wd.a ?_
    refine H.call0 Try.func58 nm58 rfl (map1 (AF_ev rfl tp)) (Calls.mono (ref_Last (by omega) (by omega) hst) ?_)
    rintro _ w ⟨rfl, hst⟩
    refine ⟨_, rfl, ?_⟩
    show RW _ _ _ _ _ _ _
    refine RW.soft Wd.a (v := .int .i64 (i + ((es.length : Nat) : Int))) (by exact E.assign (AF_ev rfl tp)) ?_
    refine RW.soft Wd.a (v := .int .i64 0) (by exact E.assign rfl) ?_
    refine RW.soft Wd.a (v := .bool false) (by exact E.assign rfl) ?_
    refine RW.fin (fun τ => τ 0 = .pointer (some ⟨b, 0, none⟩) ∧ τ 1 = .int .i64 idx ∧ τ 2 = .int .i64 tm ∧ τ 3 = .slice XL l.length cl ∧ τ 8 = .int .i64 (i + ((es.length : Nat) : Int)) ∧ τ 9 = .int .i64 0 ∧ τ 10 = .bool false ∧ τ 21 = .bool true) ⟨up rfl (up rfl (up rfl (up rfl (up rfl hs0)))), up rfl (up rfl (up rfl (up rfl (up rfl hs1)))), up rfl (up rfl (up rfl (up rfl (up rfl hs2)))), up rfl (up rfl (up rfl (up rfl (up rfl hs3)))), up rfl (up rfl tp), up rfl tp, tp, up rfl (up rfl (up rfl (up rfl (up rfl (Eq.trans hs21 (congrArg Value.bool hc1))))))⟩ ?_
    rintro τ ⟨hs0, hs1, hs2, hs3, hs8, hs9, hs10, hs21⟩
    refine CW.ret ?_
    refine Th.r ?_
    refine retN (rs := [.tmp 8, .tmp 9, .tmp 10]) (vs := [.int .i64 (i + ((es.length : Nat) : Int)), .int .i64 0, .bool false]) rfl (by exact (.tmp (AF_ev rfl hs8) (.tmp (AF_ev rfl hs9) (.tmp (AF_ev rfl hs10) .nil)))) (by simp) ?_
    have hst := hst.take (.there (.there .here))
    have hst := hst.take (.there (.there .here))
    have hst := hst.take (.there (.there .here))
    have hf : idx > i + ((ts es).length : Nat) := by rw [ts_len]; omega
    exact ⟨by unfold joinA joinF joinO; rw [if_pos hf, if_pos hf, if_pos hf, ts_len], by unfold joinL; rw [if_pos hf]; exact refClose hi hn hE hst⟩
  · have hc1_ := hc1
    try simp only [decide_eq_true_eq, decide_eq_false_iff_not, Bool.and_eq_true, Bool.or_eq_true, Bool.and_eq_false_iff, Bool.or_eq_false_iff, Bool.not_eq_true', Bool.not_eq_false', beq_iff_eq, beq_eq_false_iff_ne, bne_iff_ne, bne_eq_false_iff_eq, ne_eq, Int.not_lt, Int.not_le, gt_iff_lt, ge_iff_le] at hc1_
    have hnl : ¬ idx > i + ((ts es).length : Nat) := by rw [ts_len]; exact of_decide_eq_false hc1
    have hnl2 := hnl
    rw [ts_len] at hnl2
    refine CW.skip ?_
    refine Th.n ?_
    refine CW.seq ?_
    refine CW.seq ?_
    refine CW.region ?_
    refine RW.soft Wd.a (v := .int .i64 idx) (by exact E.move (AF_ev rfl hs1)) ?_
    refine RW.soft Wd.a (v := .pointer (some ⟨b, 0, none⟩)) (by exact E.move (AF_ev rfl (up rfl hs0))) ?_
    refine RW.soft Wd.a (v := .pointer (some ⟨b, 0, none⟩)) (by exact E.nilCheck (a := ⟨b, 0, none⟩) (AF_ev rfl tp)) ?_
    refine RW.soft Wd.a (v := .pointer (some ⟨b, 0, none⟩)) (by exact E.fieldAddr (b := b) (o := 0) (f := { name := "Index", type := 3, offset := 0, embedded := false, tag := "", pkgPath := "", byteOffset := 0 }) (AF_ev rfl tp) Try.underlying106 rfl sz3 rfl) ?_
    refine RW.soft Wd.a (v := .int .i64 i) (by exact E.load (a := ⟨b, 0, none⟩) Try.underlying3 rfl (AF_ev rfl tp) (hst.cell .here rfl)) ?_
    refine RW.soft Wd.a (v := .bool (decide (idx ≥ i))) (by exact E.geq (k := .i64) (a := idx) (b := i) (AF_ev rfl (up rfl (up rfl (up rfl (up rfl tp))))) (AF_ev rfl tp)) ?_
    refine RW.fin (fun τ => τ 0 = .pointer (some ⟨b, 0, none⟩) ∧ τ 1 = .int .i64 idx ∧ τ 2 = .int .i64 tm ∧ τ 3 = .slice XL l.length cl ∧ τ 8 = .int .i64 0 ∧ τ 9 = .int .i64 0 ∧ τ 10 = .bool false ∧ τ 21 = .bool false ∧ τ 29 = .bool (decide (idx ≥ i))) ⟨up rfl (up rfl (up rfl (up rfl (up rfl (up rfl hs0))))), up rfl (up rfl (up rfl (up rfl (up rfl (up rfl hs1))))), up rfl (up rfl (up rfl (up rfl (up rfl (up rfl hs2))))), up rfl (up rfl (up rfl (up rfl (up rfl (up rfl hs3))))), up rfl (up rfl (up rfl (up rfl (up rfl (up rfl hs8))))), up rfl (up rfl (up rfl (up rfl (up rfl (up rfl hs9))))), up rfl (up rfl (up rfl (up rfl (up rfl (up rfl hs10))))), up rfl (up rfl (up rfl (up rfl (up rfl (up rfl (Eq.trans hs21 (congrArg Value.bool hc1))))))), tp⟩ ?_
    rintro τ ⟨hs0, hs1, hs2, hs3, hs8, hs9, hs10, hs21, hs29⟩
    refine CW.cond (AF_ev rfl hs29) (fun hc2 => ?_) (fun hc2 => ?_)
    · have hc2_ := hc2
      try simp only [decide_eq_true_eq, decide_eq_false_iff_not, Bool.and_eq_true, Bool.or_eq_true, Bool.and_eq_false_iff, Bool.or_eq_false_iff, Bool.not_eq_true', Bool.not_eq_false', beq_iff_eq, beq_eq_false_iff_ne, bne_iff_ne, bne_eq_false_iff_eq, ne_eq, Int.not_lt, Int.not_le, gt_iff_lt, ge_iff_le] at hc2_
      have hge := of_decide_eq_true hc2
      have hte : termE i (ts es) idx = 0 := by unfold termE; rw [ts_len]; (split <;> first | rfl | (rw [if_pos (by omega)]))
      refine CW.seq ?_
      refine CW.region ?_
      refine RW.soft Wd.a (v := .pointer (some ⟨b, 0, none⟩)) (by exact E.move (AF_ev rfl hs0)) ?_
      refine RW.soft Wd.a (v := .int .i64 idx) (by exact E.move (AF_ev rfl (up rfl hs1))) ?_
      have hst := hst.take (.there .here)
      have hst := hst.take (.there .here)
      have hst := refClose hi hn hE hst
      refine RW.hard Wd.a ?_
      refine H.call0 Try.func59 nm59 rfl (map2 (AF_ev rfl (up rfl tp)) (AF_ev rfl tp)) (Calls.mono (ref_Term idx (by omega) hst) ?_)
      rintro _ w ⟨rfl, hst⟩
      refine ⟨_, rfl, ?_⟩
      show RW _ _ _ _ _ _ _
      refine RW.soft Wd.a (v := .tuple #[.int .i64 (termT i t (ts es) idx), .int .i64 (termE i (ts es) idx)]) (by exact E.move (AF_ev rfl tp)) ?_
      refine RW.soft Wd.a (v := .int .i64 (termT i t (ts es) idx)) (by exact E.extract (vs := #[.int .i64 (termT i t (ts es) idx), .int .i64 (termE i (ts es) idx)]) (AF_ev rfl tp) rfl) ?_
      refine RW.soft Wd.a (v := .int .i64 (termE i (ts es) idx)) (by exact E.extract (vs := #[.int .i64 (termT i t (ts es) idx), .int .i64 (termE i (ts es) idx)]) (AF_ev rfl (up rfl tp)) rfl) ?_
      refine RW.soft Wd.a (v := .int .i64 (termT i t (ts es) idx)) (by exact E.assign (AF_ev rfl (up rfl tp))) ?_
      refine RW.soft Wd.a (v := .int .i64 (termE i (ts es) idx)) (by exact E.assign (AF_ev rfl (up rfl tp))) ?_
      refine RW.fin (fun τ => τ 0 = .pointer (some ⟨b, 0, none⟩) ∧ τ 1 = .int .i64 idx ∧ τ 2 = .int .i64 tm ∧ τ 3 = .slice XL l.length cl ∧ τ 8 = .int .i64 0 ∧ τ 9 = .int .i64 0 ∧ τ 10 = .bool false ∧ τ 11 = .int .i64 (termT i t (ts es) idx) ∧ τ 21 = .bool false ∧ τ 29 = .bool true) ⟨up rfl (up rfl (up rfl (up rfl (up rfl (up rfl (up rfl (up rfl hs0))))))), up rfl (up rfl (up rfl (up rfl (up rfl (up rfl (up rfl (up rfl hs1))))))), up rfl (up rfl (up rfl (up rfl (up rfl (up rfl (up rfl (up rfl hs2))))))), up rfl (up rfl (up rfl (up rfl (up rfl (up rfl (up rfl (up rfl hs3))))))), up rfl (up rfl (up rfl (up rfl (up rfl (up rfl (up rfl (up rfl hs8))))))), up rfl (up rfl (up rfl (up rfl (up rfl (up rfl (up rfl (up rfl hs9))))))), up rfl (up rfl (up rfl (up rfl (up rfl (up rfl (up rfl (up rfl hs10))))))), up rfl tp, up rfl (up rfl (up rfl (up rfl (up rfl (up rfl (up rfl (up rfl hs21))))))), up rfl (up rfl (up rfl (up rfl (up rfl (up rfl (up rfl (up rfl (Eq.trans hs29 (congrArg Value.bool hc2)))))))))⟩ ?_
      rintro τ ⟨hs0, hs1, hs2, hs3, hs8, hs9, hs10, hs11, hs21, hs29⟩
      refine CW.seq ?_
      refine CW.region ?_
      refine RW.soft Wd.a (v := .int .i64 (termT i t (ts es) idx)) (by exact E.move (AF_ev rfl hs11)) ?_
      refine RW.soft Wd.a (v := .int .i64 tm) (by exact E.move (AF_ev rfl (up rfl hs2))) ?_
      refine RW.soft Wd.a (v := .bool ((termT i t (ts es) idx) != tm)) (by exact E.neq (k := .i64) (a := termT i t (ts es) idx) (b := tm) (AF_ev rfl (up rfl tp)) (AF_ev rfl tp)) ?_
      refine RW.fin (fun τ => τ 0 = .pointer (some ⟨b, 0, none⟩) ∧ τ 1 = .int .i64 idx ∧ τ 2 = .int .i64 tm ∧ τ 3 = .slice XL l.length cl ∧ τ 8 = .int .i64 0 ∧ τ 9 = .int .i64 0 ∧ τ 10 = .bool false ∧ τ 11 = .int .i64 (termT i t (ts es) idx) ∧ τ 21 = .bool false ∧ τ 29 = .bool true ∧ τ 38 = .bool ((termT i t (ts es) idx) != tm)) ⟨up rfl (up rfl (up rfl hs0)), up rfl (up rfl (up rfl hs1)), up rfl (up rfl (up rfl hs2)), up rfl (up rfl (up rfl hs3)), up rfl (up rfl (up rfl hs8)), up rfl (up rfl (up rfl hs9)), up rfl (up rfl (up rfl hs10)), up rfl (up rfl (up rfl hs11)), up rfl (up rfl (up rfl hs21)), up rfl (up rfl (up rfl hs29)), tp⟩ ?_
      rintro τ ⟨hs0, hs1, hs2, hs3, hs8, hs9, hs10, hs11, hs21, hs29, hs38⟩
      refine CW.cond (AF_ev rfl hs38) (fun hc3 => ?_) (fun hc3 => ?_)
      · have hc3_ := hc3
        try simp only [decide_eq_true_eq, decide_eq_false_iff_not, Bool.and_eq_true, Bool.or_eq_true, Bool.and_eq_false_iff, Bool.or_eq_false_iff, Bool.not_eq_true', Bool.not_eq_false', beq_iff_eq, beq_eq_false_iff_ne, bne_iff_ne, bne_eq_false_iff_eq, ne_eq, Int.not_lt, Int.not_le, gt_iff_lt, ge_iff_le] at hc3_
        have hcl : clash i t (ts es) idx tm = true := by unfold clash; rw [hte, hc3]; rfl
        refine CW.seq ?_
        obtain ⟨X, c, hi, hn, hE, hcc, hX, hst⟩ := refOpen hst
        refine CW.region ?_
        refine RW.soft Wd.a (v := .int .i64 idx) (by exact E.move (AF_ev rfl hs1)) ?_
        refine RW.soft Wd.a (v := .int .i64 idx) (by exact E.assign (AF_ev rfl tp)) ?_
        refine RW.fin (fun τ => τ 0 = .pointer (some ⟨b, 0, none⟩) ∧ τ 1 = .int .i64 idx ∧ τ 2 = .int .i64 tm ∧ τ 3 = .slice XL l.length cl ∧ τ 8 = .int .i64 0 ∧ τ 9 = .int .i64 0 ∧ τ 10 = .bool false ∧ τ 11 = .int .i64 (termT i t (ts es) idx) ∧ τ 13 = .int .i64 idx ∧ τ 21 = .bool false ∧ τ 29 = .bool true ∧ τ 38 = .bool true) ⟨up rfl (up rfl hs0), up rfl (up rfl hs1), up rfl (up rfl hs2), up rfl (up rfl hs3), up rfl (up rfl hs8), up rfl (up rfl hs9), up rfl (up rfl hs10), up rfl (up rfl hs11), tp, up rfl (up rfl hs21), up rfl (up rfl hs29), up rfl (up rfl (Eq.trans hs38 (congrArg Value.bool hc3)))⟩ ?_
        rintro τ ⟨hs0, hs1, hs2, hs3, hs8, hs9, hs10, hs11, hs13, hs21, hs29, hs38⟩
        refine CW.seq ?_
        refine CW.block ?_
        have hst := hst.take (.there (.there .here))
        have hst := hst.take (.there (.there .here))
        have hst := hst.take (.there (.there .here))
        refine CW.loop (fun (k : Nat) (τ : Fr) (w : World) => ∃ (m : Nat), m ≤ es.length ∧ back (ts es) (termT i t (ts es) idx) (idx - i).toNat = back (ts es) (termT i t (ts es) idx) m ∧ k = m ∧ τ 0 = .pointer (some ⟨b, 0, none⟩) ∧ τ 11 = .int .i64 (termT i t (ts es) idx) ∧ τ 13 = .int .i64 (i + ((m : Nat) : Int)) ∧ St p w (pt b (.cells #[.int .i64 i, .int .i64 t, .slice X es.length c] 106) :: Own 58 4 (.slice X es.length c) es.length (flat es) :: A :: R)) ((idx - i).toNat) ⟨(idx - i).toNat, (by omega), rfl, rfl, hs0, hs11, (int_eq (a := idx) hs13 (by omega)), hst⟩ ?_
        clear hst
        rintro k τ w ⟨m, hm, hbk, hkm, hs0, hs11, hs13, hst⟩
        refine CW.seq ?_
        refine CW.seq ?_
        refine Or.elim (Bool.eq_false_or_eq_true (decide ((i + ((m : Nat) : Int)) > i))) (fun hq1 => ?_) (fun hq1 => ?_)
        · skip
          have hq := of_decide_eq_true hq1
          obtain ⟨g, rfl⟩ := hX (by omega)
          obtain ⟨x, hx⟩ : ∃ x, es[(i + ((m : Nat) : Int) - i - 1).toNat]? = some x := ⟨_, List.getElem?_eq_getElem (by omega)⟩
          refine CW.regionD [0, 1, 2, 3, 4, 5, 6, 7, 8, 9, 10, 11, 12, 13, 14, 15, 16, 17, 18, 19, 20, 21, 22, 23] (fun w => w.cell? ⟨b, 0, none⟩ = some (.int .i64 i) ∧ w.cell? ⟨b, 2, none⟩ = some (.slice (some ⟨g, 0, none⟩) es.length c) ∧ w.cell? ⟨g, (i + ((m : Nat) : Int) - i - 1).toNat * 4, none⟩ = some (.int .i64 x.term)) mixed ?_
          have hst := hst.drew
          generalize w.drew = w at hst ⊢
          have hS : w.cell? ⟨b, 0, none⟩ = some (.int .i64 i) ∧ w.cell? ⟨b, 2, none⟩ = some (.slice (some ⟨g, 0, none⟩) es.length c) ∧ w.cell? ⟨g, (i + ((m : Nat) : Int) - i - 1).toNat * 4, none⟩ = some (.int .i64 x.term) := ⟨hst.cell .here rfl, hst.cell .here rfl, (hst.ocell (.there .here) (flat_get Ent.enc_len hx (j := 0) rfl))⟩
          refine RD.take 0 rfl (by kernel_rfl) Wd.a (v := .int .i64 (i + ((m : Nat) : Int))) (fun w hS => by exact E.move (AF_ev rfl hs13)) hS ?_
          refine RD.take 1 rfl (by kernel_rfl) Wd.a (v := .pointer (some ⟨b, 0, none⟩)) (fun w hS => by exact E.move (AF_ev rfl (up rfl hs0))) hS ?_
          refine RD.take 2 rfl (by kernel_rfl) Wd.a (v := .pointer (some ⟨b, 0, none⟩)) (fun w hS => by exact E.nilCheck (a := ⟨b, 0, none⟩) (AF_ev rfl tp)) hS ?_
          refine RD.take 3 rfl (by kernel_rfl) Wd.a (v := .pointer (some ⟨b, 0, none⟩)) (fun w hS => by exact E.fieldAddr (b := b) (o := 0) (f := { name := "Index", type := 3, offset := 0, embedded := false, tag := "", pkgPath := "", byteOffset := 0 }) (AF_ev rfl tp) Try.underlying106 rfl sz3 rfl) hS ?_
          refine RD.take 4 rfl (by kernel_rfl) Wd.a (v := .int .i64 i) (fun w hS => by exact E.load (a := ⟨b, 0, none⟩) Try.underlying3 rfl (AF_ev rfl tp) hS.1) hS ?_
          refine RD.take 5 rfl (by kernel_rfl) Wd.a (v := .bool true) (fun w hS => by exact E.b (a := decide ((i + ((m : Nat) : Int)) > i)) (E.gtr (k := .i64) (a := i + ((m : Nat) : Int)) (b := i) (AF_ev rfl (up rfl (up rfl (up rfl (up rfl tp))))) (AF_ev rfl tp)) hq1) hS ?_
          refine RD.take 6 rfl (by kernel_rfl) Wd.a (v := .bool true) (fun w hS => by exact E.move (AF_ev rfl tp)) hS ?_
          refine RD.take 7 rfl (by kernel_rfl) (by exact Wd.yes (x := 46) rfl (AF_ev rfl tp)) (v := .pointer (some ⟨b, 0, none⟩)) (fun w hS => by exact E.move (AF_ev rfl (up rfl (up rfl (up rfl (up rfl (up rfl (up rfl (up rfl hs0))))))))) hS ?_
          refine RD.take 8 rfl (by kernel_rfl) (by exact Wd.yes (x := 46) rfl (AF_ev rfl (up rfl tp))) (v := .pointer (some ⟨b, 0, none⟩)) (fun w hS => by exact E.nilCheck (a := ⟨b, 0, none⟩) (AF_ev rfl tp)) hS ?_
          refine RD.take 9 rfl (by kernel_rfl) (by exact Wd.yes (x := 46) rfl (AF_ev rfl (up rfl (up rfl tp)))) (v := .pointer (some ⟨b, 2, none⟩)) (fun w hS => by exact E.fieldAddr (b := b) (o := 0) (f := { name := "L", type := 44, offset := 2, embedded := false, tag := "", pkgPath := "", byteOffset := 16 }) (AF_ev rfl tp) Try.underlying106 rfl sz44 rfl) hS ?_
          refine RD.take 10 rfl (by kernel_rfl) (by exact Wd.yes (x := 46) rfl (AF_ev rfl (up rfl (up rfl (up rfl tp))))) (v := .slice (some ⟨g, 0, none⟩) es.length c) (fun w hS => by exact E.load (a := ⟨b, 2, none⟩) Try.underlying44 rfl (AF_ev rfl tp) hS.2.1) hS ?_
          refine RD.take 11 rfl (by kernel_rfl) (by exact Wd.yes (x := 46) rfl (AF_ev rfl (up rfl (up rfl (up rfl (up rfl tp)))))) (v := .int .i64 (i + ((m : Nat) : Int))) (fun w hS => by exact E.move (AF_ev rfl (up rfl (up rfl (up rfl (up rfl (up rfl (up rfl (up rfl (up rfl (up rfl (up rfl (up rfl hs13))))))))))))) hS ?_
          refine RD.take 12 rfl (by kernel_rfl) (by exact Wd.yes (x := 46) rfl (AF_ev rfl (up rfl (up rfl (up rfl (up rfl (up rfl tp))))))) (v := .pointer (some ⟨b, 0, none⟩)) (fun w hS => by exact E.move (AF_ev rfl (up rfl (up rfl (up rfl (up rfl (up rfl (up rfl (up rfl (up rfl (up rfl (up rfl (up rfl (up rfl hs0)))))))))))))) hS ?_
          refine RD.take 13 rfl (by kernel_rfl) (by exact Wd.yes (x := 46) rfl (AF_ev rfl (up rfl (up rfl (up rfl (up rfl (up rfl (up rfl tp)))))))) (v := .pointer (some ⟨b, 0, none⟩)) (fun w hS => by exact E.nilCheck (a := ⟨b, 0, none⟩) (AF_ev rfl tp)) hS ?_
          refine RD.take 14 rfl (by kernel_rfl) (by exact Wd.yes (x := 46) rfl (AF_ev rfl (up rfl (up rfl (up rfl (up rfl (up rfl (up rfl (up rfl tp))))))))) (v := .pointer (some ⟨b, 0, none⟩)) (fun w hS => by exact E.fieldAddr (b := b) (o := 0) (f := { name := "Index", type := 3, offset := 0, embedded := false, tag := "", pkgPath := "", byteOffset := 0 }) (AF_ev rfl tp) Try.underlying106 rfl sz3 rfl) hS ?_
          refine RD.take 15 rfl (by kernel_rfl) (by exact Wd.yes (x := 46) rfl (AF_ev rfl (up rfl (up rfl (up rfl (up rfl (up rfl (up rfl (up rfl (up rfl tp)))))))))) (v := .int .i64 i) (fun w hS => by exact E.load (a := ⟨b, 0, none⟩) Try.underlying3 rfl (AF_ev rfl tp) hS.1) hS ?_
          refine RD.take 16 rfl (by kernel_rfl) (by exact Wd.yes (x := 46) rfl (AF_ev rfl (up rfl (up rfl (up rfl (up rfl (up rfl (up rfl (up rfl (up rfl (up rfl tp))))))))))) (v := .int .i64 (i + ((m : Nat) : Int) - i)) (fun w hS => by exact E.sub (k := .i64) (a := i + ((m : Nat) : Int)) (b := i) (AF_ev rfl (up rfl (up rfl (up rfl (up rfl tp))))) (AF_ev rfl tp) (show IntKind.i64.wrap ((i + ((m : Nat) : Int)) - i) = i + ((m : Nat) : Int) - i from (by rw [IntWalk.i64_in _ (by omega)] <;> omega))) hS ?_
          refine RD.take 17 rfl (by kernel_rfl) (by exact Wd.yes (x := 46) rfl (AF_ev rfl (up rfl (up rfl (up rfl (up rfl (up rfl (up rfl (up rfl (up rfl (up rfl (up rfl tp)))))))))))) (v := .int .i64 (i + ((m : Nat) : Int) - i - 1)) (fun w hS => by exact E.sub (k := .i64) (a := i + ((m : Nat) : Int) - i) (b := 1) (AF_ev rfl tp) rfl (show IntKind.i64.wrap ((i + ((m : Nat) : Int) - i) - 1) = i + ((m : Nat) : Int) - i - 1 from (by rw [IntWalk.i64_in _ (by omega)] <;> omega))) hS ?_
          refine RD.take 18 rfl (by kernel_rfl) (by exact Wd.yes (x := 46) rfl (AF_ev rfl (up rfl (up rfl (up rfl (up rfl (up rfl (up rfl (up rfl (up rfl (up rfl (up rfl (up rfl tp))))))))))))) (v := .pointer (some ⟨g, (i + ((m : Nat) : Int) - i - 1).toNat * 4, none⟩)) (fun w hS => by exact E.indexAddr (b := g) (o := 0) (l := es.length) (c := c) (i := i + ((m : Nat) : Int) - i - 1) Try.underlying44 sz58 (AF_ev rfl (up rfl (up rfl (up rfl (up rfl (up rfl (up rfl (up rfl tp)))))))) (AF_ev rfl tp) (by omega) (by omega) (by simp)) hS ?_
          refine RD.take 19 rfl (by kernel_rfl) (by exact Wd.yes (x := 46) rfl (AF_ev rfl (up rfl (up rfl (up rfl (up rfl (up rfl (up rfl (up rfl (up rfl (up rfl (up rfl (up rfl (up rfl tp)))))))))))))) (v := .pointer (some ⟨g, (i + ((m : Nat) : Int) - i - 1).toNat * 4, none⟩)) (fun w hS => by exact E.fieldAddr (b := g) (o := (i + ((m : Nat) : Int) - i - 1).toNat * 4) (f := { name := "Term", type := 3, offset := 0, embedded := false, tag := "", pkgPath := "", byteOffset := 0 }) (AF_ev rfl tp) Try.underlying58 rfl sz3 rfl) hS ?_
          refine RD.take 20 rfl (by kernel_rfl) (by exact Wd.yes (x := 46) rfl (AF_ev rfl (up rfl (up rfl (up rfl (up rfl (up rfl (up rfl (up rfl (up rfl (up rfl (up rfl (up rfl (up rfl (up rfl tp))))))))))))))) (v := .int .i64 x.term) (fun w hS => by exact E.load (a := ⟨g, (i + ((m : Nat) : Int) - i - 1).toNat * 4, none⟩) Try.underlying3 rfl (AF_ev rfl tp) hS.2.2) hS ?_
          refine RD.take 21 rfl (by kernel_rfl) (by exact Wd.yes (x := 46) rfl (AF_ev rfl (up rfl (up rfl (up rfl (up rfl (up rfl (up rfl (up rfl (up rfl (up rfl (up rfl (up rfl (up rfl (up rfl (up rfl tp)))))))))))))))) (v := .int .i64 (termT i t (ts es) idx)) (fun w hS => by exact E.move (AF_ev rfl (up rfl (up rfl (up rfl (up rfl (up rfl (up rfl (up rfl (up rfl (up rfl (up rfl (up rfl (up rfl (up rfl (up rfl (up rfl (up rfl (up rfl (up rfl (up rfl (up rfl (up rfl hs11))))))))))))))))))))))) hS ?_
          refine RD.take 22 rfl (by kernel_rfl) (by exact Wd.yes (x := 46) rfl (AF_ev rfl (up rfl (up rfl (up rfl (up rfl (up rfl (up rfl (up rfl (up rfl (up rfl (up rfl (up rfl (up rfl (up rfl (up rfl (up rfl tp))))))))))))))))) (v := .bool (x.term == (termT i t (ts es) idx))) (fun w hS => by exact E.eql (k := .i64) (a := x.term) (b := termT i t (ts es) idx) (AF_ev rfl (up rfl tp)) (AF_ev rfl tp)) hS ?_
          refine RD.take 23 rfl (by kernel_rfl) Wd.a (v := .bool (x.term == (termT i t (ts es) idx))) (fun w hS => by exact E.pickT (AF_ev rfl (up rfl (up rfl (up rfl (up rfl (up rfl (up rfl (up rfl (up rfl (up rfl (up rfl (up rfl (up rfl (up rfl (up rfl (up rfl (up rfl tp))))))))))))))))) (AF_ev rfl tp)) hS ?_
          refine RD.fin (by kernel_rfl) (fun τ => τ 0 = .pointer (some ⟨b, 0, none⟩) ∧ τ 11 = .int .i64 (termT i t (ts es) idx) ∧ τ 13 = .int .i64 (i + ((m : Nat) : Int)) ∧ τ 63 = .bool (x.term == (termT i t (ts es) idx))) ⟨up rfl (up rfl (up rfl (up rfl (up rfl (up rfl (up rfl (up rfl (up rfl (up rfl (up rfl (up rfl (up rfl (up rfl (up rfl (up rfl (up rfl (up rfl (up rfl (up rfl (up rfl (up rfl (up rfl (up rfl hs0))))))))))))))))))))))), up rfl (up rfl (up rfl (up rfl (up rfl (up rfl (up rfl (up rfl (up rfl (up rfl (up rfl (up rfl (up rfl (up rfl (up rfl (up rfl (up rfl (up rfl (up rfl (up rfl (up rfl (up rfl (up rfl (up rfl hs11))))))))))))))))))))))), up rfl (up rfl (up rfl (up rfl (up rfl (up rfl (up rfl (up rfl (up rfl (up rfl (up rfl (up rfl (up rfl (up rfl (up rfl (up rfl (up rfl (up rfl (up rfl (up rfl (up rfl (up rfl (up rfl (up rfl hs13))))))))))))))))))))))), tp⟩ ?_
          rintro τ ⟨hs0, hs11, hs13, hs63⟩
          refine CW.cond (AF_ev rfl hs63) (fun hc4 => ?_) (fun hc4 => ?_)
          · have hc4_ := hc4
            try simp only [decide_eq_true_eq, decide_eq_false_iff_not, Bool.and_eq_true, Bool.or_eq_true, Bool.and_eq_false_iff, Bool.or_eq_false_iff, Bool.not_eq_true', Bool.not_eq_false', beq_iff_eq, beq_eq_false_iff_ne, bne_iff_ne, bne_eq_false_iff_eq, ne_eq, Int.not_lt, Int.not_le, gt_iff_lt, ge_iff_le] at hc4_
            have hbk2 : back (ts es) (termT i t (ts es) idx) (idx - i).toNat = back (ts es) (termT i t (ts es) idx) (m - 1) := by
              rw [hbk]; obtain ⟨z, rfl⟩ : ∃ z, m = z + 1 := ⟨m - 1, by omega⟩
              have hz : (ts es).getD z 0 = x.term := by
                rw [show (i + ((z + 1 : Nat) : Int) - i - 1).toNat = z from by omega] at hx; simp [ts, List.getD, hx]
              conv => lhs; unfold back
              rw [hz, if_pos (by simpa using hc4)]; rfl
            refine CW.skip ?_
            refine Th.n ?_
            refine CW.block ?_
            refine CW.region ?_
            refine RW.soft Wd.a (v := .int .i64 (i + ((m : Nat) : Int))) (by exact E.move (AF_ev rfl hs13)) ?_
            refine RW.soft Wd.a (v := .int .i64 (i + ((m : Nat) : Int) - 1)) (by exact E.sub (k := .i64) (a := i + ((m : Nat) : Int)) (b := 1) (AF_ev rfl tp) rfl (show IntKind.i64.wrap ((i + ((m : Nat) : Int)) - 1) = i + ((m : Nat) : Int) - 1 from (by rw [IntWalk.i64_in _ (by omega)] <;> omega))) ?_
            refine RW.soft Wd.a (v := .int .i64 (i + ((m : Nat) : Int) - 1)) (by exact E.assign (AF_ev rfl tp)) ?_
            refine RW.nil ?_
            refine Bl.n ?_
            refine Th.n ?_
            obtain ⟨m, rfl⟩ : ∃ z, m = z + 1 := ⟨m - 1, by omega⟩
            have hst := hst.take (.there (.there .here))
            have hst := hst.take (.there (.there .here))
            have hst := hst.take (.there (.there .here))
            exact ⟨m, by omega, m, (by omega), hbk2, (by omega), up rfl (up rfl (up rfl hs0)), up rfl (up rfl (up rfl hs11)), (int_eq (a := i + ((m + 1 : Nat) : Int) - 1) tp (by omega)), hst⟩
          · have hc4_ := hc4
            try simp only [decide_eq_true_eq, decide_eq_false_iff_not, Bool.and_eq_true, Bool.or_eq_true, Bool.and_eq_false_iff, Bool.or_eq_false_iff, Bool.not_eq_true', Bool.not_eq_false', beq_iff_eq, beq_eq_false_iff_ne, bne_iff_ne, bne_eq_false_iff_eq, ne_eq, Int.not_lt, Int.not_le, gt_iff_lt, ge_iff_le] at hc4_
            have hbe : back (ts es) (termT i t (ts es) idx) m = m := by
              obtain ⟨z, rfl⟩ : ∃ z, m = z + 1 := ⟨m - 1, by omega⟩
              have hz : (ts es).getD z 0 = x.term := by
                rw [show (i + ((z + 1 : Nat) : Int) - i - 1).toNat = z from by omega] at hx; simp [ts, List.getD, hx]
              unfold back
              rw [hz, if_neg (by simpa using hc4)]
            refine CW.exit ?_
            refine Th.x ?_
            refine Th.x ?_
            refine Bl.x ?_
            refine Th.n ?_
            refine CW.seq ?_
            refine CW.region ?_
            refine RW.soft Wd.a (v := .int .i64 (i + ((m : Nat) : Int))) (by exact E.move (AF_ev rfl hs13)) ?_
            refine RW.soft Wd.a (v := .int .i64 (i + ((m : Nat) : Int))) (by exact E.assign (AF_ev rfl tp)) ?_
            refine RW.soft Wd.a (v := .int .i64 0) (by exact E.assign rfl) ?_
            refine RW.soft Wd.a (v := .bool false) (by exact E.assign rfl) ?_
            refine RW.fin (fun τ => τ 0 = .pointer (some ⟨b, 0, none⟩) ∧ τ 8 = .int .i64 (i + ((m : Nat) : Int)) ∧ τ 9 = .int .i64 0 ∧ τ 10 = .bool false ∧ τ 11 = .int .i64 (termT i t (ts es) idx) ∧ τ 13 = .int .i64 (i + ((m : Nat) : Int)) ∧ τ 63 = .bool false) ⟨up rfl (up rfl (up rfl (up rfl hs0))), up rfl (up rfl tp), up rfl tp, tp, up rfl (up rfl (up rfl (up rfl hs11))), up rfl (up rfl (up rfl (up rfl hs13))), up rfl (up rfl (up rfl (up rfl (Eq.trans hs63 (congrArg Value.bool hc4)))))⟩ ?_
            rintro τ ⟨hs0, hs8, hs9, hs10, hs11, hs13, hs63⟩
            refine CW.ret ?_
            refine Th.r ?_
            refine retN (rs := [.tmp 8, .tmp 9, .tmp 10]) (vs := [.int .i64 (i + ((m : Nat) : Int)), .int .i64 0, .bool false]) rfl (by exact (.tmp (AF_ev rfl hs8) (.tmp (AF_ev rfl hs9) (.tmp (AF_ev rfl hs10) .nil)))) (by simp) ?_
            have hst := hst.take (.there (.there .here))
            have hst := hst.take (.there (.there .here))
            have hst := hst.take (.there (.there .here))
            exact ⟨by unfold joinA joinF joinO; rw [if_neg hnl, if_neg hnl, if_neg hnl, if_pos hcl, if_pos hcl, if_pos hcl, hbk, hbe], by unfold joinL; rw [if_neg hnl, if_pos hcl]; exact refClose hi hn hE hst⟩
        · skip
          refine CW.regionD [0, 1, 2, 3, 4, 5, 6, 7, 8, 9, 10, 11, 12, 13, 14, 15, 16, 17, 18, 19, 20, 21, 22, 23] (fun w => w.cell? ⟨b, 0, none⟩ = some (.int .i64 i)) mixed ?_
          have hst := hst.drew
          generalize w.drew = w at hst ⊢
          have hS : w.cell? ⟨b, 0, none⟩ = some (.int .i64 i) := hst.cell .here rfl
          refine RD.take 0 rfl (by kernel_rfl) Wd.a (v := .int .i64 (i + ((m : Nat) : Int))) (fun w hS => by exact E.move (AF_ev rfl hs13)) hS ?_
          refine RD.take 1 rfl (by kernel_rfl) Wd.a (v := .pointer (some ⟨b, 0, none⟩)) (fun w hS => by exact E.move (AF_ev rfl (up rfl hs0))) hS ?_
          refine RD.take 2 rfl (by kernel_rfl) Wd.a (v := .pointer (some ⟨b, 0, none⟩)) (fun w hS => by exact E.nilCheck (a := ⟨b, 0, none⟩) (AF_ev rfl tp)) hS ?_
          refine RD.take 3 rfl (by kernel_rfl) Wd.a (v := .pointer (some ⟨b, 0, none⟩)) (fun w hS => by exact E.fieldAddr (b := b) (o := 0) (f := { name := "Index", type := 3, offset := 0, embedded := false, tag := "", pkgPath := "", byteOffset := 0 }) (AF_ev rfl tp) Try.underlying106 rfl sz3 rfl) hS ?_
          refine RD.take 4 rfl (by kernel_rfl) Wd.a (v := .int .i64 i) (fun w hS => by exact E.load (a := ⟨b, 0, none⟩) Try.underlying3 rfl (AF_ev rfl tp) hS) hS ?_
          refine RD.take 5 rfl (by kernel_rfl) Wd.a (v := .bool false) (fun w hS => by exact E.b (a := decide ((i + ((m : Nat) : Int)) > i)) (E.gtr (k := .i64) (a := i + ((m : Nat) : Int)) (b := i) (AF_ev rfl (up rfl (up rfl (up rfl (up rfl tp))))) (AF_ev rfl tp)) hq1) hS ?_
          refine RD.take 6 rfl (by kernel_rfl) Wd.a (v := .bool false) (fun w hS => by exact E.move (AF_ev rfl tp)) hS ?_
          refine RD.pass 7 rfl (by kernel_rfl) (by exact Wd.no (x := 46) (b := false) rfl (AF_ev rfl tp) rfl) hS ?_
          refine RD.pass 8 rfl (by kernel_rfl) (by exact Wd.no (x := 46) (b := false) rfl (AF_ev rfl (up rfl tp)) rfl) hS ?_
          refine RD.pass 9 rfl (by kernel_rfl) (by exact Wd.no (x := 46) (b := false) rfl (AF_ev rfl (up rfl (up rfl tp))) rfl) hS ?_
          refine RD.pass 10 rfl (by kernel_rfl) (by exact Wd.no (x := 46) (b := false) rfl (AF_ev rfl (up rfl (up rfl (up rfl tp)))) rfl) hS ?_
          refine RD.pass 11 rfl (by kernel_rfl) (by exact Wd.no (x := 46) (b := false) rfl (AF_ev rfl (up rfl (up rfl (up rfl (up rfl tp))))) rfl) hS ?_
          refine RD.pass 12 rfl (by kernel_rfl) (by exact Wd.no (x := 46) (b := false) rfl (AF_ev rfl (up rfl (up rfl (up rfl (up rfl (up rfl tp)))))) rfl) hS ?_
          refine RD.pass 13 rfl (by kernel_rfl) (by exact Wd.no (x := 46) (b := false) rfl (AF_ev rfl (up rfl (up rfl (up rfl (up rfl (up rfl (up rfl tp))))))) rfl) hS ?_
          refine RD.pass 14 rfl (by kernel_rfl) (by exact Wd.no (x := 46) (b := false) rfl (AF_ev rfl (up rfl (up rfl (up rfl (up rfl (up rfl (up rfl (up rfl tp)))))))) rfl) hS ?_
          refine RD.pass 15 rfl (by kernel_rfl) (by exact Wd.no (x := 46) (b := false) rfl (AF_ev rfl (up rfl (up rfl (up rfl (up rfl (up rfl (up rfl (up rfl (up rfl tp))))))))) rfl) hS ?_
          refine RD.pass 16 rfl (by kernel_rfl) (by exact Wd.no (x := 46) (b := false) rfl (AF_ev rfl (up rfl (up rfl (up rfl (up rfl (up rfl (up rfl (up rfl (up rfl (up rfl tp)))))))))) rfl) hS ?_
          refine RD.pass 17 rfl (by kernel_rfl) (by exact Wd.no (x := 46) (b := false) rfl (AF_ev rfl (up rfl (up rfl (up rfl (up rfl (up rfl (up rfl (up rfl (up rfl (up rfl (up rfl tp))))))))))) rfl) hS ?_
          refine RD.pass 18 rfl (by kernel_rfl) (by exact Wd.no (x := 46) (b := false) rfl (AF_ev rfl (up rfl (up rfl (up rfl (up rfl (up rfl (up rfl (up rfl (up rfl (up rfl (up rfl (up rfl tp)))))))))))) rfl) hS ?_
          refine RD.pass 19 rfl (by kernel_rfl) (by exact Wd.no (x := 46) (b := false) rfl (AF_ev rfl (up rfl (up rfl (up rfl (up rfl (up rfl (up rfl (up rfl (up rfl (up rfl (up rfl (up rfl (up rfl tp))))))))))))) rfl) hS ?_
          refine RD.pass 20 rfl (by kernel_rfl) (by exact Wd.no (x := 46) (b := false) rfl (AF_ev rfl (up rfl (up rfl (up rfl (up rfl (up rfl (up rfl (up rfl (up rfl (up rfl (up rfl (up rfl (up rfl (up rfl tp)))))))))))))) rfl) hS ?_
          refine RD.pass 21 rfl (by kernel_rfl) (by exact Wd.no (x := 46) (b := false) rfl (AF_ev rfl (up rfl (up rfl (up rfl (up rfl (up rfl (up rfl (up rfl (up rfl (up rfl (up rfl (up rfl (up rfl (up rfl (up rfl tp))))))))))))))) rfl) hS ?_
          refine RD.pass 22 rfl (by kernel_rfl) (by exact Wd.no (x := 46) (b := false) rfl (AF_ev rfl (up rfl (up rfl (up rfl (up rfl (up rfl (up rfl (up rfl (up rfl (up rfl (up rfl (up rfl (up rfl (up rfl (up rfl (up rfl tp)))))))))))))))) rfl) hS ?_
          refine RD.take 23 rfl (by kernel_rfl) Wd.a (v := .bool false) (fun w hS => by exact E.pickF (AF_ev rfl (up rfl (up rfl (up rfl (up rfl (up rfl (up rfl (up rfl (up rfl (up rfl (up rfl (up rfl (up rfl (up rfl (up rfl (up rfl (up rfl tp))))))))))))))))) rfl) hS ?_
          refine RD.fin (by kernel_rfl) (fun τ => τ 0 = .pointer (some ⟨b, 0, none⟩) ∧ τ 11 = .int .i64 (termT i t (ts es) idx) ∧ τ 13 = .int .i64 (i + ((m : Nat) : Int)) ∧ τ 63 = .bool false) ⟨up rfl (up rfl (up rfl (up rfl (up rfl (up rfl (up rfl (up rfl (up rfl (up rfl (up rfl (up rfl (up rfl (up rfl (up rfl (up rfl (up rfl (up rfl (up rfl (up rfl (up rfl (up rfl (up rfl (up rfl hs0))))))))))))))))))))))), up rfl (up rfl (up rfl (up rfl (up rfl (up rfl (up rfl (up rfl (up rfl (up rfl (up rfl (up rfl (up rfl (up rfl (up rfl (up rfl (up rfl (up rfl (up rfl (up rfl (up rfl (up rfl (up rfl (up rfl hs11))))))))))))))))))))))), up rfl (up rfl (up rfl (up rfl (up rfl (up rfl (up rfl (up rfl (up rfl (up rfl (up rfl (up rfl (up rfl (up rfl (up rfl (up rfl (up rfl (up rfl (up rfl (up rfl (up rfl (up rfl (up rfl (up rfl hs13))))))))))))))))))))))), tp⟩ ?_
          rintro τ ⟨hs0, hs11, hs13, hs63⟩
          refine CW.condF (AF_ev rfl hs63) ?_
          refine CW.exit ?_
          refine Th.x ?_
          refine Th.x ?_
          refine Bl.x ?_
          refine Th.n ?_
          refine CW.seq ?_
          have hbe : back (ts es) (termT i t (ts es) idx) m = m := by
            have hq := of_decide_eq_false hq1
            obtain rfl : m = 0 := by omega
            rfl
          refine CW.region ?_
          refine RW.soft Wd.a (v := .int .i64 (i + ((m : Nat) : Int))) (by exact E.move (AF_ev rfl hs13)) ?_
          refine RW.soft Wd.a (v := .int .i64 (i + ((m : Nat) : Int))) (by exact E.assign (AF_ev rfl tp)) ?_
          refine RW.soft Wd.a (v := .int .i64 0) (by exact E.assign rfl) ?_
          refine RW.soft Wd.a (v := .bool false) (by exact E.assign rfl) ?_
          refine RW.fin (fun τ => τ 0 = .pointer (some ⟨b, 0, none⟩) ∧ τ 8 = .int .i64 (i + ((m : Nat) : Int)) ∧ τ 9 = .int .i64 0 ∧ τ 10 = .bool false ∧ τ 11 = .int .i64 (termT i t (ts es) idx) ∧ τ 13 = .int .i64 (i + ((m : Nat) : Int)) ∧ τ 63 = .bool false) ⟨up rfl (up rfl (up rfl (up rfl hs0))), up rfl (up rfl tp), up rfl tp, tp, up rfl (up rfl (up rfl (up rfl hs11))), up rfl (up rfl (up rfl (up rfl hs13))), up rfl (up rfl (up rfl (up rfl hs63)))⟩ ?_
          rintro τ ⟨hs0, hs8, hs9, hs10, hs11, hs13, hs63⟩
          refine CW.ret ?_
          refine Th.r ?_
          refine retN (rs := [.tmp 8, .tmp 9, .tmp 10]) (vs := [.int .i64 (i + ((m : Nat) : Int)), .int .i64 0, .bool false]) rfl (by exact (.tmp (AF_ev rfl hs8) (.tmp (AF_ev rfl hs9) (.tmp (AF_ev rfl hs10) .nil)))) (by simp) ?_
          have hst := hst.take (.there (.there .here))
          have hst := hst.take (.there (.there .here))
          have hst := hst.take (.there (.there .here))
          exact ⟨by unfold joinA joinF joinO; rw [if_neg hnl, if_neg hnl, if_neg hnl, if_pos hcl, if_pos hcl, if_pos hcl, hbk, hbe], by unfold joinL; rw [if_neg hnl, if_pos hcl]; exact refClose hi hn hE hst⟩
      · have hc3_ := hc3
        try simp only [decide_eq_true_eq, decide_eq_false_iff_not, Bool.and_eq_true, Bool.or_eq_true, Bool.and_eq_false_iff, Bool.or_eq_false_iff, Bool.not_eq_true', Bool.not_eq_false', beq_iff_eq, beq_eq_false_iff_ne, bne_iff_ne, bne_eq_false_iff_eq, ne_eq, Int.not_lt, Int.not_le, gt_iff_lt, ge_iff_le] at hc3_
        have hcl : ¬ clash i t (ts es) idx tm = true := by unfold clash; rw [hte, hc3]; simp
        refine CW.skip ?_
        refine Th.n ?_
        refine CW.seq ?_
        refine CW.seq ?_
        obtain ⟨X, c, hi, hn, hE, hcc, hX, hst⟩ := refOpen hst
        have hst := hst.take (.there .here)
        have hst := hst.take (.there .here)
        have hst := refClose hi hn hE hst
        have htl := ts_len l
        have htes := ts_len es
        refine CW.region ?_
        refine RW.soft Wd.a (v := .int .i64 0) (by exact E.assign rfl) ?_
        refine RW.fin (fun τ => τ 0 = .pointer (some ⟨b, 0, none⟩) ∧ τ 1 = .int .i64 idx ∧ τ 2 = .int .i64 tm ∧ τ 3 = .slice XL l.length cl ∧ τ 8 = .int .i64 0 ∧ τ 9 = .int .i64 0 ∧ τ 10 = .bool false ∧ τ 11 = .int .i64 (termT i t (ts es) idx) ∧ τ 14 = .int .i64 0 ∧ τ 21 = .bool false ∧ τ 29 = .bool true ∧ τ 38 = .bool false) ⟨up rfl hs0, up rfl hs1, up rfl hs2, up rfl hs3, up rfl hs8, up rfl hs9, up rfl hs10, up rfl hs11, tp, up rfl hs21, up rfl hs29, up rfl (Eq.trans hs38 (congrArg Value.bool hc3))⟩ ?_
        rintro τ ⟨hs0, hs1, hs2, hs3, hs8, hs9, hs10, hs11, hs14, hs21, hs29, hs38⟩
        refine CW.block ?_
        have hst := hst.take (.there .here)
        have hst := hst.take (.there .here)
        refine CW.loop (fun (k : Nat) (τ : Fr) (w : World) => ∃ (j : Nat), findJ i t (ts es) idx (ts l) 0 = findJ i t (ts es) idx ((ts l).drop j) (j : Int) ∧ j ≤ l.length ∧ k = l.length - j ∧ τ 0 = .pointer (some ⟨b, 0, none⟩) ∧ τ 1 = .int .i64 idx ∧ τ 3 = .slice XL l.length cl ∧ τ 14 = .int .i64 ((j : Nat) : Int) ∧ St p w (RefB p b i t es :: A :: R)) (l.length - 0) ⟨0, rfl, by omega, rfl, hs0, hs1, hs3, (int_eq (a := 0) hs14 (by omega)), hst⟩ ?_
        clear hst
        rintro k τ w ⟨j, hf, hj, hkj, hs0, hs1, hs3, hs14, hst⟩
        refine CW.seq ?_
        refine CW.seq ?_
        refine CW.region ?_
        refine RW.soft Wd.a (v := .int .i64 ((j : Nat) : Int)) (by exact E.move (AF_ev rfl hs14)) ?_
        refine RW.soft Wd.a (v := .slice XL l.length cl) (by exact E.move (AF_ev rfl (up rfl hs3))) ?_
        refine RW.soft Wd.a (v := .int .i64 ((l.length : Nat) : Int)) (by exact E.lenS (p := XL) (l := l.length) (c := cl) Try.underlying44 (AF_ev rfl tp)) ?_
        refine RW.soft Wd.a (v := .bool (decide (((j : Nat) : Int) < ((l.length : Nat) : Int)))) (by exact E.lss (k := .i64) (a := ((j : Nat) : Int)) (b := ((l.length : Nat) : Int)) (AF_ev rfl (up rfl (up rfl tp))) (AF_ev rfl tp)) ?_
        refine RW.fin (fun τ => τ 0 = .pointer (some ⟨b, 0, none⟩) ∧ τ 1 = .int .i64 idx ∧ τ 3 = .slice XL l.length cl ∧ τ 14 = .int .i64 ((j : Nat) : Int) ∧ τ 70 = .bool (decide (((j : Nat) : Int) < ((l.length : Nat) : Int)))) ⟨up rfl (up rfl (up rfl (up rfl hs0))), up rfl (up rfl (up rfl (up rfl hs1))), up rfl (up rfl (up rfl (up rfl hs3))), up rfl (up rfl (up rfl (up rfl hs14))), tp⟩ ?_
        rintro τ ⟨hs0, hs1, hs3, hs14, hs70⟩
        refine CW.cond (AF_ev rfl hs70) (fun hc5 => ?_) (fun hc5 => ?_)
        · have hc5_ := hc5
          try simp only [decide_eq_true_eq, decide_eq_false_iff_not, Bool.and_eq_true, Bool.or_eq_true, Bool.and_eq_false_iff, Bool.or_eq_false_iff, Bool.not_eq_true', Bool.not_eq_false', beq_iff_eq, beq_eq_false_iff_ne, bne_iff_ne, bne_eq_false_iff_eq, ne_eq, Int.not_lt, Int.not_le, gt_iff_lt, ge_iff_le] at hc5_
          refine CW.skip ?_
          refine Th.n ?_
          refine CW.seq ?_
          refine CW.block ?_
          refine CW.seq ?_
          obtain ⟨X, c, hi, hn, hE, hcc, hX, hst⟩ := refOpen hst
          have hjl : j < l.length := by omega
          obtain ⟨b0, o0, rfl, hcell0⟩ := hA.place (hst.take (.there (.there .here))) (by omega)
          have hlcl := ((hA.src (hst.take (.there (.there .here)))).len).2.1
          obtain ⟨z, hz⟩ : ∃ z, l[j]? = some z := ⟨l[j]'(by omega), List.getElem?_eq_getElem (by omega)⟩
          refine CW.region ?_
          refine RW.soft Wd.a (v := .int .i64 idx) (by exact E.move (AF_ev rfl hs1)) ?_
          refine RW.soft Wd.a (v := .int .i64 (idx + 1)) (by exact E.add (k := .i64) (a := idx) (b := 1) (AF_ev rfl tp) rfl (show IntKind.i64.wrap (idx + 1) = idx + 1 from (by rw [IntWalk.i64_in _ (by omega)]))) ?_
          refine RW.soft Wd.a (v := .int .i64 ((j : Nat) : Int)) (by exact E.move (AF_ev rfl (up rfl (up rfl hs14)))) ?_
          refine RW.soft Wd.a (v := .int .i64 (idx + 1 + ((j : Nat) : Int))) (by exact E.add (k := .i64) (a := idx + 1) (b := ((j : Nat) : Int)) (AF_ev rfl (up rfl tp)) (AF_ev rfl tp) (show IntKind.i64.wrap ((idx + 1) + ((j : Nat) : Int)) = idx + 1 + ((j : Nat) : Int) from (by rw [IntWalk.i64_in _ (by omega)] <;> omega))) ?_
          refine RW.soft Wd.a (v := .int .i64 (idx + 1 + ((j : Nat) : Int))) (by exact E.assign (AF_ev rfl tp)) ?_
          refine RW.fin (fun τ => τ 0 = .pointer (some ⟨b, 0, none⟩) ∧ τ 1 = .int .i64 idx ∧ τ 3 = .slice (some ⟨b0, o0, none⟩) l.length cl ∧ τ 14 = .int .i64 ((j : Nat) : Int) ∧ τ 15 = .int .i64 (idx + 1 + ((j : Nat) : Int)) ∧ τ 70 = .bool true) ⟨up rfl (up rfl (up rfl (up rfl (up rfl hs0)))), up rfl (up rfl (up rfl (up rfl (up rfl hs1)))), up rfl (up rfl (up rfl (up rfl (up rfl hs3)))), up rfl (up rfl (up rfl (up rfl (up rfl hs14)))), tp, up rfl (up rfl (up rfl (up rfl (up rfl (Eq.trans hs70 (congrArg Value.bool hc5))))))⟩ ?_
          rintro τ ⟨hs0, hs1, hs3, hs14, hs15, hs70⟩
          refine CW.seq ?_
          refine CW.seq ?_
          refine CW.region ?_
          refine RW.soft Wd.a (v := .int .i64 (idx + 1 + ((j : Nat) : Int))) (by exact E.move (AF_ev rfl hs15)) ?_
          refine RW.soft Wd.a (v := .pointer (some ⟨b, 0, none⟩)) (by exact E.move (AF_ev rfl (up rfl hs0))) ?_
          refine RW.soft Wd.a (v := .pointer (some ⟨b, 0, none⟩)) (by exact E.nilCheck (a := ⟨b, 0, none⟩) (AF_ev rfl tp)) ?_
          refine RW.soft Wd.a (v := .pointer (some ⟨b, 0, none⟩)) (by exact E.fieldAddr (b := b) (o := 0) (f := { name := "Index", type := 3, offset := 0, embedded := false, tag := "", pkgPath := "", byteOffset := 0 }) (AF_ev rfl tp) Try.underlying106 rfl sz3 rfl) ?_
          refine RW.soft Wd.a (v := .int .i64 i) (by exact E.load (a := ⟨b, 0, none⟩) Try.underlying3 rfl (AF_ev rfl tp) (hst.cell .here rfl)) ?_
          refine RW.soft Wd.a (v := .bool (decide ((idx + 1 + ((j : Nat) : Int)) ≤ i))) (by exact E.leq (k := .i64) (a := idx + 1 + ((j : Nat) : Int)) (b := i) (AF_ev rfl (up rfl (up rfl (up rfl (up rfl tp))))) (AF_ev rfl tp)) ?_
          refine RW.fin (fun τ => τ 0 = .pointer (some ⟨b, 0, none⟩) ∧ τ 1 = .int .i64 idx ∧ τ 3 = .slice (some ⟨b0, o0, none⟩) l.length cl ∧ τ 14 = .int .i64 ((j : Nat) : Int) ∧ τ 15 = .int .i64 (idx + 1 + ((j : Nat) : Int)) ∧ τ 70 = .bool true ∧ τ 82 = .bool (decide ((idx + 1 + ((j : Nat) : Int)) ≤ i))) ⟨up rfl (up rfl (up rfl (up rfl (up rfl (up rfl hs0))))), up rfl (up rfl (up rfl (up rfl (up rfl (up rfl hs1))))), up rfl (up rfl (up rfl (up rfl (up rfl (up rfl hs3))))), up rfl (up rfl (up rfl (up rfl (up rfl (up rfl hs14))))), up rfl (up rfl (up rfl (up rfl (up rfl (up rfl hs15))))), up rfl (up rfl (up rfl (up rfl (up rfl (up rfl hs70))))), tp⟩ ?_
          rintro τ ⟨hs0, hs1, hs3, hs14, hs15, hs70, hs82⟩
          refine CW.cond (AF_ev rfl hs82) (fun hc6 => ?_) (fun hc6 => ?_)
          · have hc6_ := hc6
            try simp only [decide_eq_true_eq, decide_eq_false_iff_not, Bool.and_eq_true, Bool.or_eq_true, Bool.and_eq_false_iff, Bool.or_eq_false_iff, Bool.not_eq_true', Bool.not_eq_false', beq_iff_eq, beq_eq_false_iff_ne, bne_iff_ne, bne_eq_false_iff_eq, ne_eq, Int.not_lt, Int.not_le, gt_iff_lt, ge_iff_le] at hc6_
            have hns : stopB i t (ts es) (idx + (j : Int) + 1) z.term = false := by unfold stopB; rw [decide_eq_false (by have := of_decide_eq_true hc6; omega)]; rfl
            refine CW.exit ?_
            refine Th.x ?_
            refine Bl.x ?_
            refine Th.n ?_
            refine CW.region ?_
            refine RW.soft Wd.a (v := .int .i64 ((j : Nat) : Int)) (by exact E.move (AF_ev rfl hs14)) ?_
            refine RW.soft Wd.a (v := .int .i64 (((j : Nat) : Int) + 1)) (by exact E.add (k := .i64) (a := ((j : Nat) : Int)) (b := 1) (AF_ev rfl tp) rfl (show IntKind.i64.wrap (((j : Nat) : Int) + 1) = ((j : Nat) : Int) + 1 from (by rw [IntWalk.i64_in _ (by omega)]))) ?_
            refine RW.soft Wd.a (v := .int .i64 (((j : Nat) : Int) + 1)) (by exact E.assign (AF_ev rfl tp)) ?_
            refine RW.nil ?_
            refine Th.n ?_
            have hst := hst.take (.there .here)
            have hst := hst.take (.there .here)
            have hst := refClose hi hn hE hst
            have hff : findJ i t (ts es) idx (ts l) 0 = findJ i t (ts es) idx ((ts l).drop (j + 1)) ((j + 1 : Nat) : Int) := by
              rw [hf, drop_ts hz]; conv => lhs; unfold findJ
              rw [if_neg (by rw [hns]; simp)]; rfl
            have hst := hst.take (.there .here)
            have hst := hst.take (.there .here)
            exact ⟨l.length - (j + 1), by omega, j + 1, hff, (by omega), (by omega), up rfl (up rfl (up rfl hs0)), up rfl (up rfl (up rfl hs1)), up rfl (up rfl (up rfl hs3)), (int_eq (a := ((j : Nat) : Int) + 1) tp (by omega)), hst⟩
          · have hc6_ := hc6
            try simp only [decide_eq_true_eq, decide_eq_false_iff_not, Bool.and_eq_true, Bool.or_eq_true, Bool.and_eq_false_iff, Bool.or_eq_false_iff, Bool.not_eq_true', Bool.not_eq_false', beq_iff_eq, beq_eq_false_iff_ne, bne_iff_ne, bne_eq_false_iff_eq, ne_eq, Int.not_lt, Int.not_le, gt_iff_lt, ge_iff_le] at hc6_
            have hgi := of_decide_eq_false hc6
            refine CW.skip ?_
            refine Th.n ?_
            refine CW.seq ?_
            refine CW.region ?_
            refine RW.soft Wd.a (v := .pointer (some ⟨b, 0, none⟩)) (by exact E.move (AF_ev rfl hs0)) ?_
            refine RW.soft Wd.a (v := .int .i64 (idx + 1 + ((j : Nat) : Int))) (by exact E.move (AF_ev rfl (up rfl hs15))) ?_
            have hst := hst.take (.there .here)
            have hst := hst.take (.there .here)
            have hst := refClose hi hn hE hst
            refine RW.hard Wd.a ?_
            refine H.call0 Try.func60 nm60 rfl (map2 (AF_ev rfl (up rfl tp)) (AF_ev rfl tp)) (Calls.mono (ref_At (idx + 1 + ((j : Nat) : Int)) (by omega) hst) ?_)
            rintro _ w ⟨x7, hx7, rfl, hst⟩
            refine ⟨_, rfl, ?_⟩
            show RW _ _ _ _ _ _ _
            refine RW.soft Wd.a (v := .tuple #[.agg #[.int .i64 x7.term, .int .i64 x7.kind, .slice x7.X x7.ns.length x7.xc, .slice x7.Y x7.ms.length x7.yc], .int .i64 (atE i es (idx + 1 + ((j : Nat) : Int)))]) (by exact E.move (AF_ev rfl tp)) ?_
            refine RW.soft Wd.a (v := .agg #[.int .i64 x7.term, .int .i64 x7.kind, .slice x7.X x7.ns.length x7.xc, .slice x7.Y x7.ms.length x7.yc]) (by exact E.extract (vs := #[.agg #[.int .i64 x7.term, .int .i64 x7.kind, .slice x7.X x7.ns.length x7.xc, .slice x7.Y x7.ms.length x7.yc], .int .i64 (atE i es (idx + 1 + ((j : Nat) : Int)))]) (AF_ev rfl tp) rfl) ?_
            refine RW.soft Wd.a (v := .int .i64 (atE i es (idx + 1 + ((j : Nat) : Int)))) (by exact E.extract (vs := #[.agg #[.int .i64 x7.term, .int .i64 x7.kind, .slice x7.X x7.ns.length x7.xc, .slice x7.Y x7.ms.length x7.yc], .int .i64 (atE i es (idx + 1 + ((j : Nat) : Int)))]) (AF_ev rfl (up rfl tp)) rfl) ?_
            refine RW.hard Wd.a ?_
            refine H.alloc zr58 hst fun b8 w hst => ?_
            refine RW.hard Wd.a ?_
            refine H.store (b := b8) (o := 0) (v := .agg #[.int .i64 x7.term, .int .i64 x7.kind, .slice x7.X x7.ns.length x7.xc, .slice x7.Y x7.ms.length x7.yc]) (c' := #[.int .i64 x7.term, .int .i64 x7.kind, .slice x7.X x7.ns.length x7.xc, .slice x7.Y x7.ms.length x7.yc]) (AF_ev rfl tp) (AF_ev rfl (up rfl (up rfl tp))) hst .here sz58 (by simp [Value.cells]) (by simp [Value.cells, Value.oneCell']) rfl fun w hst => ?_
            refine RW.soft Wd.a (v := .int .i64 (atE i es (idx + 1 + ((j : Nat) : Int)))) (by exact E.assign (AF_ev rfl (u0 (up rfl tp)))) ?_
            refine RW.fin (fun τ => τ 0 = .pointer (some ⟨b, 0, none⟩) ∧ τ 1 = .int .i64 idx ∧ τ 3 = .slice (some ⟨b0, o0, none⟩) l.length cl ∧ τ 14 = .int .i64 ((j : Nat) : Int) ∧ τ 15 = .int .i64 (idx + 1 + ((j : Nat) : Int)) ∧ τ 16 = .pointer (some ⟨b8, 0, none⟩) ∧ τ 17 = .int .i64 (atE i es (idx + 1 + ((j : Nat) : Int))) ∧ τ 70 = .bool true ∧ τ 82 = .bool false) ⟨up rfl (u0 (up rfl (up rfl (up rfl (up rfl (up rfl (up rfl (up rfl hs0)))))))), up rfl (u0 (up rfl (up rfl (up rfl (up rfl (up rfl (up rfl (up rfl hs1)))))))), up rfl (u0 (up rfl (up rfl (up rfl (up rfl (up rfl (up rfl (up rfl hs3)))))))), up rfl (u0 (up rfl (up rfl (up rfl (up rfl (up rfl (up rfl (up rfl hs14)))))))), up rfl (u0 (up rfl (up rfl (up rfl (up rfl (up rfl (up rfl (up rfl hs15)))))))), up rfl (u0 tp), tp, up rfl (u0 (up rfl (up rfl (up rfl (up rfl (up rfl (up rfl (up rfl hs70)))))))), up rfl (u0 (up rfl (up rfl (up rfl (up rfl (up rfl (up rfl (up rfl (Eq.trans hs82 (congrArg Value.bool hc6))))))))))⟩ ?_
            rintro τ ⟨hs0, hs1, hs3, hs14, hs15, hs16, hs17, hs70, hs82⟩
            refine CW.seq ?_
            refine CW.seq ?_
            refine Or.elim (Bool.eq_false_or_eq_true ((atE i es (idx + 1 + ((j : Nat) : Int))) == 0)) (fun ha => ?_) (fun ha => ?_)
            · skip
              refine Or.elim (Bool.eq_false_or_eq_true (x7.term == z.term)) (fun hb => ?_) (fun hb => ?_)
              · skip
                have hk2 : idx + (j : Int) + 1 = idx + 1 + ((j : Nat) : Int) := by omega
                have hkne : (idx + 1 + ((j : Nat) : Int)) ≠ i := by omega
                have hns : stopB i t (ts es) (idx + (j : Int) + 1) z.term = false := by
                  unfold stopB; rw [hk2, termE_atE hkne, termT_atX hkne, ← hx7, beq_iff_eq.1 ha, beq_iff_eq.1 hb]; simp
                refine CW.regionD [0, 1, 2, 3, 4, 5, 6, 7, 8, 9, 10, 11] (fun w => w.cell? ⟨b8, 0, none⟩ = some (.int .i64 x7.term) ∧ w.cell? ⟨b0, o0 + j * 4, none⟩ = some (.int .i64 z.term)) mixed ?_
                have hst := hst.drew
                generalize w.drew = w at hst ⊢
                have hS : w.cell? ⟨b8, 0, none⟩ = some (.int .i64 x7.term) ∧ w.cell? ⟨b0, o0 + j * 4, none⟩ = some (.int .i64 z.term) := ⟨hst.cell .here rfl, (hcell0 p.le_refl (hst.take (.there (.there .here))) _ _ (flat_get Ent.enc_len hz (j := 0) rfl))⟩
                refine RD.take 0 rfl (by kernel_rfl) Wd.a (v := .int .i64 (atE i es (idx + 1 + ((j : Nat) : Int)))) (fun w hS => by exact E.move (AF_ev rfl hs17)) hS ?_
                refine RD.take 1 rfl (by kernel_rfl) Wd.a (v := .bool true) (fun w hS => by exact E.b (a := (atE i es (idx + 1 + ((j : Nat) : Int))) == 0) (E.eql (k := .i64) (a := atE i es (idx + 1 + ((j : Nat) : Int))) (b := 0) (AF_ev rfl tp) rfl) ha) hS ?_
                refine RD.take 2 rfl (by kernel_rfl) Wd.a (v := .bool true) (fun w hS => by exact E.move (AF_ev rfl tp)) hS ?_
                refine RD.take 3 rfl (by kernel_rfl) (by exact Wd.yes (x := 91) rfl (AF_ev rfl tp)) (v := .pointer (some ⟨b8, 0, none⟩)) (fun w hS => by exact E.fieldAddr (b := b8) (o := 0) (f := { name := "Term", type := 3, offset := 0, embedded := false, tag := "", pkgPath := "", byteOffset := 0 }) (AF_ev rfl (up rfl (up rfl (up rfl hs16)))) Try.underlying58 rfl sz3 rfl) hS ?_
                refine RD.take 4 rfl (by kernel_rfl) (by exact Wd.yes (x := 91) rfl (AF_ev rfl (up rfl tp))) (v := .int .i64 x7.term) (fun w hS => by exact E.load (a := ⟨b8, 0, none⟩) Try.underlying3 rfl (AF_ev rfl tp) hS.1) hS ?_
                refine RD.take 5 rfl (by kernel_rfl) (by exact Wd.yes (x := 91) rfl (AF_ev rfl (up rfl (up rfl tp)))) (v := .slice (some ⟨b0, o0, none⟩) l.length cl) (fun w hS => by exact E.move (AF_ev rfl (up rfl (up rfl (up rfl (up rfl (up rfl hs3))))))) hS ?_
                refine RD.take 6 rfl (by kernel_rfl) (by exact Wd.yes (x := 91) rfl (AF_ev rfl (up rfl (up rfl (up rfl tp))))) (v := .int .i64 ((j : Nat) : Int)) (fun w hS => by exact E.move (AF_ev rfl (up rfl (up rfl (up rfl (up rfl (up rfl (up rfl hs14)))))))) hS ?_
                refine RD.take 7 rfl (by kernel_rfl) (by exact Wd.yes (x := 91) rfl (AF_ev rfl (up rfl (up rfl (up rfl (up rfl tp)))))) (v := .pointer (some ⟨b0, o0 + j * 4, none⟩)) (fun w hS => by exact E.indexAddr (b := b0) (o := o0) (l := l.length) (c := cl) (i := ((j : Nat) : Int)) Try.underlying44 sz58 (AF_ev rfl (up rfl tp)) (AF_ev rfl tp) (by omega) (by omega) (by simp)) hS ?_
                refine RD.take 8 rfl (by kernel_rfl) (by exact Wd.yes (x := 91) rfl (AF_ev rfl (up rfl (up rfl (up rfl (up rfl (up rfl tp))))))) (v := .pointer (some ⟨b0, o0 + j * 4, none⟩)) (fun w hS => by exact E.fieldAddr (b := b0) (o := o0 + j * 4) (f := { name := "Term", type := 3, offset := 0, embedded := false, tag := "", pkgPath := "", byteOffset := 0 }) (AF_ev rfl tp) Try.underlying58 rfl sz3 rfl) hS ?_
                refine RD.take 9 rfl (by kernel_rfl) (by exact Wd.yes (x := 91) rfl (AF_ev rfl (up rfl (up rfl (up rfl (up rfl (up rfl (up rfl tp)))))))) (v := .int .i64 z.term) (fun w hS => by exact E.load (a := ⟨b0, o0 + j * 4, none⟩) Try.underlying3 rfl (AF_ev rfl tp) hS.2) hS ?_
                refine RD.take 10 rfl (by kernel_rfl) (by exact Wd.yes (x := 91) rfl (AF_ev rfl (up rfl (up rfl (up rfl (up rfl (up rfl (up rfl (up rfl tp))))))))) (v := .bool true) (fun w hS => by exact E.b (a := x7.term == z.term) (E.eql (k := .i64) (a := x7.term) (b := z.term) (AF_ev rfl (up rfl (up rfl (up rfl (up rfl (up rfl tp)))))) (AF_ev rfl tp)) hb) hS ?_
                refine RD.take 11 rfl (by kernel_rfl) Wd.a (v := .bool true) (fun w hS => by exact E.pickT (AF_ev rfl (up rfl (up rfl (up rfl (up rfl (up rfl (up rfl (up rfl (up rfl tp))))))))) (AF_ev rfl tp)) hS ?_
                refine RD.fin (by kernel_rfl) (fun τ => τ 0 = .pointer (some ⟨b, 0, none⟩) ∧ τ 1 = .int .i64 idx ∧ τ 3 = .slice (some ⟨b0, o0, none⟩) l.length cl ∧ τ 14 = .int .i64 ((j : Nat) : Int) ∧ τ 15 = .int .i64 (idx + 1 + ((j : Nat) : Int)) ∧ τ 16 = .pointer (some ⟨b8, 0, none⟩) ∧ τ 17 = .int .i64 (atE i es (idx + 1 + ((j : Nat) : Int))) ∧ τ 70 = .bool true ∧ τ 82 = .bool false ∧ τ 100 = .bool true) ⟨up rfl (up rfl (up rfl (up rfl (up rfl (up rfl (up rfl (up rfl (up rfl (up rfl (up rfl (up rfl hs0))))))))))), up rfl (up rfl (up rfl (up rfl (up rfl (up rfl (up rfl (up rfl (up rfl (up rfl (up rfl (up rfl hs1))))))))))), up rfl (up rfl (up rfl (up rfl (up rfl (up rfl (up rfl (up rfl (up rfl (up rfl (up rfl (up rfl hs3))))))))))), up rfl (up rfl (up rfl (up rfl (up rfl (up rfl (up rfl (up rfl (up rfl (up rfl (up rfl (up rfl hs14))))))))))), up rfl (up rfl (up rfl (up rfl (up rfl (up rfl (up rfl (up rfl (up rfl (up rfl (up rfl (up rfl hs15))))))))))), up rfl (up rfl (up rfl (up rfl (up rfl (up rfl (up rfl (up rfl (up rfl (up rfl (up rfl (up rfl hs16))))))))))), up rfl (up rfl (up rfl (up rfl (up rfl (up rfl (up rfl (up rfl (up rfl (up rfl (up rfl (up rfl hs17))))))))))), up rfl (up rfl (up rfl (up rfl (up rfl (up rfl (up rfl (up rfl (up rfl (up rfl (up rfl (up rfl hs70))))))))))), up rfl (up rfl (up rfl (up rfl (up rfl (up rfl (up rfl (up rfl (up rfl (up rfl (up rfl (up rfl hs82))))))))))), tp⟩ ?_
                rintro τ ⟨hs0, hs1, hs3, hs14, hs15, hs16, hs17, hs70, hs82, hs100⟩
                refine CW.condT (AF_ev rfl hs100) ?_
                refine CW.exit ?_
                refine Th.x ?_
                refine Bl.x ?_
                refine Th.n ?_
                refine CW.region ?_
                refine RW.soft Wd.a (v := .int .i64 ((j : Nat) : Int)) (by exact E.move (AF_ev rfl hs14)) ?_
                refine RW.soft Wd.a (v := .int .i64 (((j : Nat) : Int) + 1)) (by exact E.add (k := .i64) (a := ((j : Nat) : Int)) (b := 1) (AF_ev rfl tp) rfl (show IntKind.i64.wrap (((j : Nat) : Int) + 1) = ((j : Nat) : Int) + 1 from (by rw [IntWalk.i64_in _ (by omega)]))) ?_
                refine RW.soft Wd.a (v := .int .i64 (((j : Nat) : Int) + 1)) (by exact E.assign (AF_ev rfl tp)) ?_
                refine RW.nil ?_
                refine Th.n ?_
                have hff : findJ i t (ts es) idx (ts l) 0 = findJ i t (ts es) idx ((ts l).drop (j + 1)) ((j + 1 : Nat) : Int) := by
                  rw [hf, drop_ts hz]; conv => lhs; unfold findJ
                  rw [if_neg (by rw [hns]; simp)]; rfl
                have hst := hst.take (.there (.there .here))
                have hst := hst.take (.there (.there .here))
                have hst := (hst.take (.there (.there .here))).drop
                exact ⟨l.length - (j + 1), by omega, j + 1, hff, (by omega), (by omega), up rfl (up rfl (up rfl hs0)), up rfl (up rfl (up rfl hs1)), up rfl (up rfl (up rfl hs3)), (int_eq (a := ((j : Nat) : Int) + 1) tp (by omega)), hst⟩
              · skip
                have hk2 : idx + (j : Int) + 1 = idx + 1 + ((j : Nat) : Int) := by omega
                have hkne : (idx + 1 + ((j : Nat) : Int)) ≠ i := by omega
                have hstop : stopB i t (ts es) (idx + (j : Int) + 1) z.term = true := by
                  unfold stopB; rw [hk2, termT_atX hkne, ← hx7, decide_eq_true (by omega)]; have q := beq_eq_false_iff_ne.1 hb; simp [q]
                refine CW.regionD [0, 1, 2, 3, 4, 5, 6, 7, 8, 9, 10, 11] (fun w => w.cell? ⟨b8, 0, none⟩ = some (.int .i64 x7.term) ∧ w.cell? ⟨b0, o0 + j * 4, none⟩ = some (.int .i64 z.term)) mixed ?_
                have hst := hst.drew
                generalize w.drew = w at hst ⊢
                have hS : w.cell? ⟨b8, 0, none⟩ = some (.int .i64 x7.term) ∧ w.cell? ⟨b0, o0 + j * 4, none⟩ = some (.int .i64 z.term) := ⟨hst.cell .here rfl, (hcell0 p.le_refl (hst.take (.there (.there .here))) _ _ (flat_get Ent.enc_len hz (j := 0) rfl))⟩
                refine RD.take 0 rfl (by kernel_rfl) Wd.a (v := .int .i64 (atE i es (idx + 1 + ((j : Nat) : Int)))) (fun w hS => by exact E.move (AF_ev rfl hs17)) hS ?_
                refine RD.take 1 rfl (by kernel_rfl) Wd.a (v := .bool true) (fun w hS => by exact E.b (a := (atE i es (idx + 1 + ((j : Nat) : Int))) == 0) (E.eql (k := .i64) (a := atE i es (idx + 1 + ((j : Nat) : Int))) (b := 0) (AF_ev rfl tp) rfl) ha) hS ?_
                refine RD.take 2 rfl (by kernel_rfl) Wd.a (v := .bool true) (fun w hS => by exact E.move (AF_ev rfl tp)) hS ?_
                refine RD.take 3 rfl (by kernel_rfl) (by exact Wd.yes (x := 91) rfl (AF_ev rfl tp)) (v := .pointer (some ⟨b8, 0, none⟩)) (fun w hS => by exact E.fieldAddr (b := b8) (o := 0) (f := { name := "Term", type := 3, offset := 0, embedded := false, tag := "", pkgPath := "", byteOffset := 0 }) (AF_ev rfl (up rfl (up rfl (up rfl hs16)))) Try.underlying58 rfl sz3 rfl) hS ?_
                refine RD.take 4 rfl (by kernel_rfl) (by exact Wd.yes (x := 91) rfl (AF_ev rfl (up rfl tp))) (v := .int .i64 x7.term) (fun w hS => by exact E.load (a := ⟨b8, 0, none⟩) Try.underlying3 rfl (AF_ev rfl tp) hS.1) hS ?_
                refine RD.take 5 rfl (by kernel_rfl) (by exact Wd.yes (x := 91) rfl (AF_ev rfl (up rfl (up rfl tp)))) (v := .slice (some ⟨b0, o0, none⟩) l.length cl) (fun w hS => by exact E.move (AF_ev rfl (up rfl (up rfl (up rfl (up rfl (up rfl hs3))))))) hS ?_
                refine RD.take 6 rfl (by kernel_rfl) (by exact Wd.yes (x := 91) rfl (AF_ev rfl (up rfl (up rfl (up rfl tp))))) (v := .int .i64 ((j : Nat) : Int)) (fun w hS => by exact E.move (AF_ev rfl (up rfl (up rfl (up rfl (up rfl (up rfl (up rfl hs14)))))))) hS ?_
                refine RD.take 7 rfl (by kernel_rfl) (by exact Wd.yes (x := 91) rfl (AF_ev rfl (up rfl (up rfl (up rfl (up rfl tp)))))) (v := .pointer (some ⟨b0, o0 + j * 4, none⟩)) (fun w hS => by exact E.indexAddr (b := b0) (o := o0) (l := l.length) (c := cl) (i := ((j : Nat) : Int)) Try.underlying44 sz58 (AF_ev rfl (up rfl tp)) (AF_ev rfl tp) (by omega) (by omega) (by simp)) hS ?_
                refine RD.take 8 rfl (by kernel_rfl) (by exact Wd.yes (x := 91) rfl (AF_ev rfl (up rfl (up rfl (up rfl (up rfl (up rfl tp))))))) (v := .pointer (some ⟨b0, o0 + j * 4, none⟩)) (fun w hS => by exact E.fieldAddr (b := b0) (o := o0 + j * 4) (f := { name := "Term", type := 3, offset := 0, embedded := false, tag := "", pkgPath := "", byteOffset := 0 }) (AF_ev rfl tp) Try.underlying58 rfl sz3 rfl) hS ?_
                refine RD.take 9 rfl (by kernel_rfl) (by exact Wd.yes (x := 91) rfl (AF_ev rfl (up rfl (up rfl (up rfl (up rfl (up rfl (up rfl tp)))))))) (v := .int .i64 z.term) (fun w hS => by exact E.load (a := ⟨b0, o0 + j * 4, none⟩) Try.underlying3 rfl (AF_ev rfl tp) hS.2) hS ?_
                refine RD.take 10 rfl (by kernel_rfl) (by exact Wd.yes (x := 91) rfl (AF_ev rfl (up rfl (up rfl (up rfl (up rfl (up rfl (up rfl (up rfl tp))))))))) (v := .bool false) (fun w hS => by exact E.b (a := x7.term == z.term) (E.eql (k := .i64) (a := x7.term) (b := z.term) (AF_ev rfl (up rfl (up rfl (up rfl (up rfl (up rfl tp)))))) (AF_ev rfl tp)) hb) hS ?_
                refine RD.take 11 rfl (by kernel_rfl) Wd.a (v := .bool false) (fun w hS => by exact E.pickT (AF_ev rfl (up rfl (up rfl (up rfl (up rfl (up rfl (up rfl (up rfl (up rfl tp))))))))) (AF_ev rfl tp)) hS ?_
                refine RD.fin (by kernel_rfl) (fun τ => τ 0 = .pointer (some ⟨b, 0, none⟩) ∧ τ 1 = .int .i64 idx ∧ τ 3 = .slice (some ⟨b0, o0, none⟩) l.length cl ∧ τ 14 = .int .i64 ((j : Nat) : Int) ∧ τ 15 = .int .i64 (idx + 1 + ((j : Nat) : Int)) ∧ τ 16 = .pointer (some ⟨b8, 0, none⟩) ∧ τ 17 = .int .i64 (atE i es (idx + 1 + ((j : Nat) : Int))) ∧ τ 70 = .bool true ∧ τ 82 = .bool false ∧ τ 100 = .bool false) ⟨up rfl (up rfl (up rfl (up rfl (up rfl (up rfl (up rfl (up rfl (up rfl (up rfl (up rfl (up rfl hs0))))))))))), up rfl (up rfl (up rfl (up rfl (up rfl (up rfl (up rfl (up rfl (up rfl (up rfl (up rfl (up rfl hs1))))))))))), up rfl (up rfl (up rfl (up rfl (up rfl (up rfl (up rfl (up rfl (up rfl (up rfl (up rfl (up rfl hs3))))))))))), up rfl (up rfl (up rfl (up rfl (up rfl (up rfl (up rfl (up rfl (up rfl (up rfl (up rfl (up rfl hs14))))))))))), up rfl (up rfl (up rfl (up rfl (up rfl (up rfl (up rfl (up rfl (up rfl (up rfl (up rfl (up rfl hs15))))))))))), up rfl (up rfl (up rfl (up rfl (up rfl (up rfl (up rfl (up rfl (up rfl (up rfl (up rfl (up rfl hs16))))))))))), up rfl (up rfl (up rfl (up rfl (up rfl (up rfl (up rfl (up rfl (up rfl (up rfl (up rfl (up rfl hs17))))))))))), up rfl (up rfl (up rfl (up rfl (up rfl (up rfl (up rfl (up rfl (up rfl (up rfl (up rfl (up rfl hs70))))))))))), up rfl (up rfl (up rfl (up rfl (up rfl (up rfl (up rfl (up rfl (up rfl (up rfl (up rfl (up rfl hs82))))))))))), tp⟩ ?_
                rintro τ ⟨hs0, hs1, hs3, hs14, hs15, hs16, hs17, hs70, hs82, hs100⟩
                refine CW.condF (AF_ev rfl hs100) ?_
                refine CW.skip ?_
                refine Th.n ?_
                refine CW.seq ?_
                have hst := hst.take (.there .here)
                obtain ⟨X, c, hi, hn, hE, hcc, hX, hst⟩ := refOpen hst
                have hr : findJ i t (ts es) idx (ts l) 0 = (j : Int) := by rw [hf, drop_ts hz]; unfold findJ; rw [if_pos hstop]
                have hsp := findJ_spec (i := i) (t := t) (idx := idx) (T := ts es) (ts l) 0 (by omega) (by omega) (by omega)
                rw [hr] at hsp
                have hnc := St_nilcap (hst.take (.there .here))
                obtain ⟨off, hoff⟩ : ∃ z, z = if j = cl then o0 else o0 + j * 4 := ⟨_, rfl⟩
                have hlj : (es.take (idx + 1 + ((j : Nat) : Int) - i - 1).toNat).length = (idx + 1 + ((j : Nat) : Int) - i - 1).toNat := by rw [List.length_take]; omega
                have hdj : (l.drop j).length = l.length - j := List.length_drop
                refine CW.regionD [0, 2, 3, 4, 5, 6, 7, 8, 9, 10, 11, 12, 13, 15, 16, 17] (fun w => w.cell? ⟨b, 2, none⟩ = some (.slice X es.length c) ∧ w.cell? ⟨b, 0, none⟩ = some (.int .i64 i)) mixed ?_
                have hst := hst.drew
                generalize w.drew = w at hst ⊢
                have hS : w.cell? ⟨b, 2, none⟩ = some (.slice X es.length c) ∧ w.cell? ⟨b, 0, none⟩ = some (.int .i64 i) := ⟨hst.cell .here rfl, hst.cell .here rfl⟩
                refine RD.take 0 rfl (by kernel_rfl) Wd.a (v := .pointer (some ⟨b, 0, none⟩)) (fun w hS => by exact E.move (AF_ev rfl hs0)) hS ?_
                refine RD.take 2 rfl (by kernel_rfl) Wd.a (v := .pointer (some ⟨b, 0, none⟩)) (fun w hS => by exact E.move (AF_ev rfl (up rfl hs0))) hS ?_
                refine RD.take 3 rfl (by kernel_rfl) Wd.a (v := .pointer (some ⟨b, 0, none⟩)) (fun w hS => by exact E.nilCheck (a := ⟨b, 0, none⟩) (AF_ev rfl tp)) hS ?_
                refine RD.take 4 rfl (by kernel_rfl) Wd.a (v := .pointer (some ⟨b, 2, none⟩)) (fun w hS => by exact E.fieldAddr (b := b) (o := 0) (f := { name := "L", type := 44, offset := 2, embedded := false, tag := "", pkgPath := "", byteOffset := 16 }) (AF_ev rfl tp) Try.underlying106 rfl sz44 rfl) hS ?_
                refine RD.take 5 rfl (by kernel_rfl) Wd.a (v := .slice X es.length c) (fun w hS => by exact E.load (a := ⟨b, 2, none⟩) Try.underlying44 rfl (AF_ev rfl tp) hS.1) hS ?_
                refine RD.take 6 rfl (by kernel_rfl) Wd.a (v := .int .i64 (idx + 1 + ((j : Nat) : Int))) (fun w hS => by exact E.move (AF_ev rfl (up rfl (up rfl (up rfl (up rfl (up rfl hs15))))))) hS ?_
                refine RD.take 7 rfl (by kernel_rfl) Wd.a (v := .pointer (some ⟨b, 0, none⟩)) (fun w hS => by exact E.move (AF_ev rfl (up rfl (up rfl (up rfl (up rfl (up rfl (up rfl hs0)))))))) hS ?_
                refine RD.take 8 rfl (by kernel_rfl) Wd.a (v := .pointer (some ⟨b, 0, none⟩)) (fun w hS => by exact E.nilCheck (a := ⟨b, 0, none⟩) (AF_ev rfl tp)) hS ?_
                refine RD.take 9 rfl (by kernel_rfl) Wd.a (v := .pointer (some ⟨b, 0, none⟩)) (fun w hS => by exact E.fieldAddr (b := b) (o := 0) (f := { name := "Index", type := 3, offset := 0, embedded := false, tag := "", pkgPath := "", byteOffset := 0 }) (AF_ev rfl tp) Try.underlying106 rfl sz3 rfl) hS ?_
                refine RD.take 10 rfl (by kernel_rfl) Wd.a (v := .int .i64 i) (fun w hS => by exact E.load (a := ⟨b, 0, none⟩) Try.underlying3 rfl (AF_ev rfl tp) hS.2) hS ?_
                refine RD.take 11 rfl (by kernel_rfl) Wd.a (v := .int .i64 (idx + 1 + ((j : Nat) : Int) - i)) (fun w hS => by exact E.sub (k := .i64) (a := idx + 1 + ((j : Nat) : Int)) (b := i) (AF_ev rfl (up rfl (up rfl (up rfl (up rfl tp))))) (AF_ev rfl tp) (show IntKind.i64.wrap ((idx + 1 + ((j : Nat) : Int)) - i) = idx + 1 + ((j : Nat) : Int) - i from (by rw [IntWalk.i64_in _ (by omega)] <;> omega))) hS ?_
                refine RD.take 12 rfl (by kernel_rfl) Wd.a (v := .int .i64 (idx + 1 + ((j : Nat) : Int) - i - 1)) (fun w hS => by exact E.sub (k := .i64) (a := idx + 1 + ((j : Nat) : Int) - i) (b := 1) (AF_ev rfl tp) rfl (show IntKind.i64.wrap ((idx + 1 + ((j : Nat) : Int) - i) - 1) = idx + 1 + ((j : Nat) : Int) - i - 1 from (by rw [IntWalk.i64_in _ (by omega)] <;> omega))) hS ?_
                refine RD.take 13 rfl (by kernel_rfl) Wd.a (v := .slice X ((es.take (idx + 1 + ((j : Nat) : Int) - i - 1).toNat).length) c) (fun w hS => by exact E_sliceTo (X := X) (l := es.length) (c := c) (j := (es.take (idx + 1 + ((j : Nat) : Int) - i - 1).toNat).length) Try.underlying44 sz58 (AF_ev rfl (up rfl (up rfl (up rfl (up rfl (up rfl (up rfl (up rfl tp)))))))) (int_eq (a := idx + 1 + ((j : Nat) : Int) - i - 1) (AF_ev rfl tp) (by omega)) (by omega) hnc) hS ?_
                refine RD.take 15 rfl (by kernel_rfl) Wd.a (v := .slice (some ⟨b0, o0, none⟩) l.length cl) (fun w hS => by exact E.move (AF_ev rfl (up rfl (up rfl (up rfl (up rfl (up rfl (up rfl (up rfl (up rfl (up rfl (up rfl (up rfl (up rfl (up rfl hs3))))))))))))))) hS ?_
                refine RD.take 16 rfl (by kernel_rfl) Wd.a (v := .int .i64 ((j : Nat) : Int)) (fun w hS => by exact E.move (AF_ev rfl (up rfl (up rfl (up rfl (up rfl (up rfl (up rfl (up rfl (up rfl (up rfl (up rfl (up rfl (up rfl (up rfl (up rfl hs14)))))))))))))))) hS ?_
                refine RD.take 17 rfl (by kernel_rfl) Wd.a (v := .slice (some ⟨b0, off, none⟩) ((l.drop j).length) (cl - j)) (fun w hS => by exact E.slice (i := j) (j := l.length) Try.underlying44 sz58 (AF_ev rfl (up rfl tp)) (AF_ev rfl tp) rfl (by omega) (by omega) (by rw [hoff, List.length_drop])) hS ?_
                refine RD.only 1 rfl (by kernel_rfl) Wd.a ?_
                refine H.buildSlice (e := 58) (cs := #[]) (vs := #[]) (by simp) (fun _ => by kernel_rfl) hst fun b9 w hst => ?_
                have hS : w.cell? ⟨b, 2, none⟩ = some (.slice X es.length c) ∧ w.cell? ⟨b, 0, none⟩ = some (.int .i64 i) := ⟨hst.cell (.there .here) rfl, hst.cell (.there .here) rfl⟩
                refine ⟨fun _ => hS, ?_⟩
                refine RD.only 14 rfl (by kernel_rfl) Wd.a ?_
                have hst := hst.ownNew (n := 0) (cap := 0) (sz := 4) (xs := []) (by omega) (by simp [maxLen]) rfl rfl
                refine H.append2 (n2 := (es.take (idx + 1 + ((j : Nat) : Int) - i - 1).toNat).length) (xs2 := flat (es.take (idx + 1 + ((j : Nat) : Int) - i - 1).toNat)) (by first | rfl | simp) (by first | rfl | simp) (m := (es.take (idx + 1 + ((j : Nat) : Int) - i - 1).toNat).length) (news := flat (es.take (idx + 1 + ((j : Nat) : Int) - i - 1).toNat)) (s0 := .slice (some ⟨b9, 0, none⟩) 0 0) (x0 := .slice X ((es.take (idx + 1 + ((j : Nat) : Int) - i - 1).toNat).length) c) Try.underlying44 inf58 rfl (AF_ev rfl tp) (AF_ev rfl (up rfl (up rfl (up rfl (up rfl tp))))) hst .here (by have q := (Own.src (hst.take (.there (.there .here)))).take (k := (idx + 1 + ((j : Nat) : Int) - i - 1).toNat) (by omega); rw [flat_take] at q; rw [hlj]; exact q) (flat_one _) (by omega) (by simp only [maxLen]; omega) ?_
                intro vX10 w hnilX10 hst
                obtain ⟨X10, c11, rfl, hcX10, hmX10, hlX10, hbX10⟩ := hst.shape
                have hS : w.cell? ⟨b, 2, none⟩ = some (.slice X es.length c) ∧ w.cell? ⟨b, 0, none⟩ = some (.int .i64 i) := ⟨hst.cell (.there .here) rfl, hst.cell (.there .here) rfl⟩
                refine ⟨fun _ => hS, ?_⟩
                refine RD.only 18 rfl (by kernel_rfl) Wd.a ?_
                refine H.append2 (n2 := (es.take (idx + 1 + ((j : Nat) : Int) - i - 1).toNat).length + ((l.drop j).length)) (xs2 := (flat (es.take (idx + 1 + ((j : Nat) : Int) - i - 1).toNat)) ++ (flat (l.drop j))) (by first | rfl | simp) (by first | rfl | simp) (m := (l.drop j).length) (news := flat (l.drop j)) (s0 := .slice X10 ((es.take (idx + 1 + ((j : Nat) : Int) - i - 1).toNat).length) c11) (x0 := .slice (some ⟨b0, off, none⟩) ((l.drop j).length) (cl - j)) Try.underlying44 inf58 rfl (AF_ev rfl tp) (AF_ev rfl (up rfl (up rfl tp))) hst .here (by have q := (hA.src (hst.take (.there (.there (.there (.there .here)))))).lower (k := j) (by omega); rw [flat_drop, ← hoff, ← List.length_drop] at q; exact q) (flat_one _) (by omega) (by simp only [maxLen]; omega) ?_
                intro vX12 w hnilX12 hst
                obtain ⟨X12, c13, rfl, hcX12, hmX12, hlX12, hbX12⟩ := hst.shape
                have hS : w.cell? ⟨b, 2, none⟩ = some (.slice X es.length c) ∧ w.cell? ⟨b, 0, none⟩ = some (.int .i64 i) := ⟨hst.cell (.there .here) rfl, hst.cell (.there .here) rfl⟩
                refine ⟨fun _ => hS, ?_⟩
                refine RD.only 19 rfl (by kernel_rfl) Wd.a (Hd.value (v := .pointer (some ⟨b, 0, none⟩)) (by exact E.nilCheck (a := ⟨b, 0, none⟩) (AF_ev rfl (up rfl (up rfl (up rfl (up rfl (up rfl (up rfl (up rfl (up rfl (up rfl (up rfl (up rfl (up rfl (up rfl (up rfl (up rfl (up rfl (up rfl (up rfl tp)))))))))))))))))))) ⟨fun h => Bool.noConfusion ((show needs _ _ _ = false by kernel_rfl).symm.trans h), ?_⟩)
                refine RD.only 20 rfl (by kernel_rfl) Wd.a (Hd.value (v := .pointer (some ⟨b, 2, none⟩)) (by exact E.fieldAddr (b := b) (o := 0) (f := { name := "L", type := 44, offset := 2, embedded := false, tag := "", pkgPath := "", byteOffset := 16 }) (AF_ev rfl tp) Try.underlying106 rfl sz44 rfl) ⟨fun h => Bool.noConfusion ((show needs _ _ _ = false by kernel_rfl).symm.trans h), ?_⟩)
                refine RD.only 21 rfl (by kernel_rfl) Wd.a ?_
                refine H.store (b := b) (o := 2) (v := .slice X12 ((es.take (idx + 1 + ((j : Nat) : Int) - i - 1).toNat).length + ((l.drop j).length)) c13) (c' := #[.int .i64 i, .int .i64 t, .slice X12 ((es.take (idx + 1 + ((j : Nat) : Int) - i - 1).toNat).length + ((l.drop j).length)) c13]) (AF_ev rfl tp) (AF_ev rfl (up rfl (up rfl tp))) hst (.there .here) sz44 (by simp [Value.cells]) (by simp [Value.cells, Value.oneCell']) rfl fun w hst => ?_
                refine ⟨fun h => Bool.noConfusion ((show needs _ _ _ = false by kernel_rfl).symm.trans h), ?_⟩
                refine RD.fin (by kernel_rfl) (fun τ => τ 0 = .pointer (some ⟨b, 0, none⟩) ∧ τ 1 = .int .i64 idx ∧ τ 3 = .slice (some ⟨b0, o0, none⟩) l.length cl ∧ τ 14 = .int .i64 ((j : Nat) : Int) ∧ τ 15 = .int .i64 (idx + 1 + ((j : Nat) : Int)) ∧ τ 16 = .pointer (some ⟨b8, 0, none⟩) ∧ τ 17 = .int .i64 (atE i es (idx + 1 + ((j : Nat) : Int))) ∧ τ 70 = .bool true ∧ τ 82 = .bool false ∧ τ 100 = .bool false) ⟨u0 (up rfl (up rfl (up rfl (up rfl (up rfl (up rfl (up rfl (up rfl (up rfl (up rfl (up rfl (up rfl (up rfl (up rfl (up rfl (up rfl (up rfl (up rfl (up rfl (up rfl (up rfl hs0))))))))))))))))))))), u0 (up rfl (up rfl (up rfl (up rfl (up rfl (up rfl (up rfl (up rfl (up rfl (up rfl (up rfl (up rfl (up rfl (up rfl (up rfl (up rfl (up rfl (up rfl (up rfl (up rfl (up rfl hs1))))))))))))))))))))), u0 (up rfl (up rfl (up rfl (up rfl (up rfl (up rfl (up rfl (up rfl (up rfl (up rfl (up rfl (up rfl (up rfl (up rfl (up rfl (up rfl (up rfl (up rfl (up rfl (up rfl (up rfl hs3))))))))))))))))))))), u0 (up rfl (up rfl (up rfl (up rfl (up rfl (up rfl (up rfl (up rfl (up rfl (up rfl (up rfl (up rfl (up rfl (up rfl (up rfl (up rfl (up rfl (up rfl (up rfl (up rfl (up rfl hs14))))))))))))))))))))), u0 (up rfl (up rfl (up rfl (up rfl (up rfl (up rfl (up rfl (up rfl (up rfl (up rfl (up rfl (up rfl (up rfl (up rfl (up rfl (up rfl (up rfl (up rfl (up rfl (up rfl (up rfl hs15))))))))))))))))))))), u0 (up rfl (up rfl (up rfl (up rfl (up rfl (up rfl (up rfl (up rfl (up rfl (up rfl (up rfl (up rfl (up rfl (up rfl (up rfl (up rfl (up rfl (up rfl (up rfl (up rfl (up rfl hs16))))))))))))))))))))), u0 (up rfl (up rfl (up rfl (up rfl (up rfl (up rfl (up rfl (up rfl (up rfl (up rfl (up rfl (up rfl (up rfl (up rfl (up rfl (up rfl (up rfl (up rfl (up rfl (up rfl (up rfl hs17))))))))))))))))))))), u0 (up rfl (up rfl (up rfl (up rfl (up rfl (up rfl (up rfl (up rfl (up rfl (up rfl (up rfl (up rfl (up rfl (up rfl (up rfl (up rfl (up rfl (up rfl (up rfl (up rfl (up rfl hs70))))))))))))))))))))), u0 (up rfl (up rfl (up rfl (up rfl (up rfl (up rfl (up rfl (up rfl (up rfl (up rfl (up rfl (up rfl (up rfl (up rfl (up rfl (up rfl (up rfl (up rfl (up rfl (up rfl (up rfl hs82))))))))))))))))))))), u0 (up rfl (up rfl (up rfl (up rfl (up rfl (up rfl (up rfl (up rfl (up rfl (up rfl (up rfl (up rfl (up rfl (up rfl (up rfl (up rfl (up rfl (up rfl (up rfl (up rfl (up rfl hs100)))))))))))))))))))))⟩ ?_
                rintro τ ⟨hs0, hs1, hs3, hs14, hs15, hs16, hs17, hs70, hs82, hs100⟩
                refine CW.seq ?_
                refine CW.region ?_
                refine RW.soft Wd.a (v := .int .i64 idx) (by exact E.move (AF_ev rfl hs1)) ?_
                refine RW.soft Wd.a (v := .slice (some ⟨b0, o0, none⟩) l.length cl) (by exact E.move (AF_ev rfl (up rfl hs3))) ?_
                refine RW.soft Wd.a (v := .int .i64 ((l.length : Nat) : Int)) (by exact E.lenS (p := (some ⟨b0, o0, none⟩)) (l := l.length) (c := cl) Try.underlying44 (AF_ev rfl tp)) ?_
                refine RW.soft Wd.a (v := .int .i64 (idx + ((l.length : Nat) : Int))) (by exact E.add (k := .i64) (a := idx) (b := ((l.length : Nat) : Int)) (AF_ev rfl (up rfl (up rfl tp))) (AF_ev rfl tp) (show IntKind.i64.wrap (idx + ((l.length : Nat) : Int)) = idx + ((l.length : Nat) : Int) from (by rw [IntWalk.i64_in _ (by omega)]))) ?_
                refine RW.soft Wd.a (v := .int .i64 (idx + 1 + ((j : Nat) : Int))) (by exact E.move (AF_ev rfl (up rfl (up rfl (up rfl (up rfl hs15)))))) ?_
                refine RW.soft Wd.a (v := .int .i64 (idx + ((l.length : Nat) : Int))) (by exact E.assign (AF_ev rfl (up rfl tp))) ?_
                refine RW.soft Wd.a (v := .int .i64 (idx + 1 + ((j : Nat) : Int))) (by exact E.assign (AF_ev rfl (up rfl tp))) ?_
                refine RW.soft Wd.a (v := .bool true) (by exact E.assign rfl) ?_
                refine RW.fin (fun τ => τ 0 = .pointer (some ⟨b, 0, none⟩) ∧ τ 1 = .int .i64 idx ∧ τ 3 = .slice (some ⟨b0, o0, none⟩) l.length cl ∧ τ 8 = .int .i64 (idx + ((l.length : Nat) : Int)) ∧ τ 9 = .int .i64 (idx + 1 + ((j : Nat) : Int)) ∧ τ 10 = .bool true ∧ τ 14 = .int .i64 ((j : Nat) : Int) ∧ τ 15 = .int .i64 (idx + 1 + ((j : Nat) : Int)) ∧ τ 16 = .pointer (some ⟨b8, 0, none⟩) ∧ τ 17 = .int .i64 (atE i es (idx + 1 + ((j : Nat) : Int))) ∧ τ 70 = .bool true ∧ τ 82 = .bool false ∧ τ 100 = .bool false) ⟨up rfl (up rfl (up rfl (up rfl (up rfl (up rfl (up rfl (up rfl hs0))))))), up rfl (up rfl (up rfl (up rfl (up rfl (up rfl (up rfl (up rfl hs1))))))), up rfl (up rfl (up rfl (up rfl (up rfl (up rfl (up rfl (up rfl hs3))))))), up rfl (up rfl tp), up rfl tp, tp, up rfl (up rfl (up rfl (up rfl (up rfl (up rfl (up rfl (up rfl hs14))))))), up rfl (up rfl (up rfl (up rfl (up rfl (up rfl (up rfl (up rfl hs15))))))), up rfl (up rfl (up rfl (up rfl (up rfl (up rfl (up rfl (up rfl hs16))))))), up rfl (up rfl (up rfl (up rfl (up rfl (up rfl (up rfl (up rfl hs17))))))), up rfl (up rfl (up rfl (up rfl (up rfl (up rfl (up rfl (up rfl hs70))))))), up rfl (up rfl (up rfl (up rfl (up rfl (up rfl (up rfl (up rfl hs82))))))), up rfl (up rfl (up rfl (up rfl (up rfl (up rfl (up rfl (up rfl hs100)))))))⟩ ?_
                rintro τ ⟨hs0, hs1, hs3, hs8, hs9, hs10, hs14, hs15, hs16, hs17, hs70, hs82, hs100⟩
                refine CW.ret ?_
                refine Bl.r ?_
                refine Th.r ?_
                refine Th.r ?_
                refine Bl.r ?_
                refine Th.r ?_
                refine retN (rs := [.tmp 8, .tmp 9, .tmp 10]) (vs := [.int .i64 (idx + ((l.length : Nat) : Int)), .int .i64 (idx + 1 + ((j : Nat) : Int)), .bool true]) rfl (by exact (.tmp (AF_ev rfl hs8) (.tmp (AF_ev rfl hs9) (.tmp (AF_ev rfl hs10) .nil)))) (by simp) ?_
                have hst := hst.take (.there (.there (.there (.there .here))))
                have hst := hst.take (.there .here)
                have hst := hst.take (.there (.there .here))
                have hst := (hst.take (.there (.there (.there .here)))).drop
                have hst := (hst.take (.there (.there (.there .here)))).drop
                have hnr : ¬ findJ i t (ts es) idx (ts l) 0 < 0 := by omega
                have hlN : (es.take (idx + 1 + ((j : Nat) : Int) - i - 1).toNat ++ l.drop j).length = (es.take (idx + 1 + ((j : Nat) : Int) - i - 1).toNat).length + (l.drop j).length := List.length_append
                have hst : St p w (pt b (.cells #[.int .i64 i, .int .i64 t, .slice X12 (es.take (idx + 1 + ((j : Nat) : Int) - i - 1).toNat ++ l.drop j).length c13] 106) :: Own 58 4 (.slice X12 (es.take (idx + 1 + ((j : Nat) : Int) - i - 1).toNat ++ l.drop j).length c13) (es.take (idx + 1 + ((j : Nat) : Int) - i - 1).toNat ++ l.drop j).length (flat (es.take (idx + 1 + ((j : Nat) : Int) - i - 1).toNat ++ l.drop j)) :: A :: R) := by rw [hlN, flat_append]; exact hst
                have hJL : joinL i t (ts es) idx tm (ts l) es l = (es.take (idx + 1 + ((j : Nat) : Int) - i - 1).toNat ++ l.drop j) := by
                  unfold joinL; rw [if_neg hnl, if_neg hcl, if_neg hnr, hr]
                  rw [show (idx + (j : Int) + 1 - (i + 1)).toNat = (idx + 1 + ((j : Nat) : Int) - i - 1).toNat by omega, Int.toNat_natCast]
                refine ⟨?_, ?_⟩
                · unfold joinA joinF joinO; rw [if_neg hnl, if_neg hnl, if_neg hnl, if_neg hcl, if_neg hcl, if_neg hcl, if_neg hnr, ts_len, hr, show idx + (j : Int) + 1 = idx + 1 + (j : Int) by omega]
                · rw [hJL]; exact refClose hi (by omega) ((hE.take _).append (hEL.drop _)) hst
            · skip
              have hk2 : idx + (j : Int) + 1 = idx + 1 + ((j : Nat) : Int) := by omega
              have hkne : (idx + 1 + ((j : Nat) : Int)) ≠ i := by omega
              have hstop : stopB i t (ts es) (idx + (j : Int) + 1) z.term = true := by
                unfold stopB; rw [hk2, termE_atE hkne, decide_eq_true (by omega)]; have q := beq_eq_false_iff_ne.1 ha; simp [q]
              refine CW.regionD [0, 1, 2, 3, 4, 5, 6, 7, 8, 9, 10, 11] (fun w => True) mixed ?_
              have hst := hst.drew
              generalize w.drew = w at hst ⊢
              have hS : True := trivial
              refine RD.take 0 rfl (by kernel_rfl) Wd.a (v := .int .i64 (atE i es (idx + 1 + ((j : Nat) : Int)))) (fun w hS => by exact E.move (AF_ev rfl hs17)) hS ?_
              refine RD.take 1 rfl (by kernel_rfl) Wd.a (v := .bool false) (fun w hS => by exact E.b (a := (atE i es (idx + 1 + ((j : Nat) : Int))) == 0) (E.eql (k := .i64) (a := atE i es (idx + 1 + ((j : Nat) : Int))) (b := 0) (AF_ev rfl tp) rfl) ha) hS ?_
              refine RD.take 2 rfl (by kernel_rfl) Wd.a (v := .bool false) (fun w hS => by exact E.move (AF_ev rfl tp)) hS ?_
              refine RD.pass 3 rfl (by kernel_rfl) (by exact Wd.no (x := 91) (b := false) rfl (AF_ev rfl tp) rfl) hS ?_
              refine RD.pass 4 rfl (by kernel_rfl) (by exact Wd.no (x := 91) (b := false) rfl (AF_ev rfl (up rfl tp)) rfl) hS ?_
              refine RD.pass 5 rfl (by kernel_rfl) (by exact Wd.no (x := 91) (b := false) rfl (AF_ev rfl (up rfl (up rfl tp))) rfl) hS ?_
              refine RD.pass 6 rfl (by kernel_rfl) (by exact Wd.no (x := 91) (b := false) rfl (AF_ev rfl (up rfl (up rfl (up rfl tp)))) rfl) hS ?_
              refine RD.pass 7 rfl (by kernel_rfl) (by exact Wd.no (x := 91) (b := false) rfl (AF_ev rfl (up rfl (up rfl (up rfl (up rfl tp))))) rfl) hS ?_
              refine RD.pass 8 rfl (by kernel_rfl) (by exact Wd.no (x := 91) (b := false) rfl (AF_ev rfl (up rfl (up rfl (up rfl (up rfl (up rfl tp)))))) rfl) hS ?_
              refine RD.pass 9 rfl (by kernel_rfl) (by exact Wd.no (x := 91) (b := false) rfl (AF_ev rfl (up rfl (up rfl (up rfl (up rfl (up rfl (up rfl tp))))))) rfl) hS ?_
              refine RD.pass 10 rfl (by kernel_rfl) (by exact Wd.no (x := 91) (b := false) rfl (AF_ev rfl (up rfl (up rfl (up rfl (up rfl (up rfl (up rfl (up rfl tp)))))))) rfl) hS ?_
              refine RD.take 11 rfl (by kernel_rfl) Wd.a (v := .bool false) (fun w hS => by exact E.pickF (AF_ev rfl (up rfl (up rfl (up rfl (up rfl (up rfl (up rfl (up rfl (up rfl tp))))))))) rfl) hS ?_
              refine RD.fin (by kernel_rfl) (fun τ => τ 0 = .pointer (some ⟨b, 0, none⟩) ∧ τ 1 = .int .i64 idx ∧ τ 3 = .slice (some ⟨b0, o0, none⟩) l.length cl ∧ τ 14 = .int .i64 ((j : Nat) : Int) ∧ τ 15 = .int .i64 (idx + 1 + ((j : Nat) : Int)) ∧ τ 16 = .pointer (some ⟨b8, 0, none⟩) ∧ τ 17 = .int .i64 (atE i es (idx + 1 + ((j : Nat) : Int))) ∧ τ 70 = .bool true ∧ τ 82 = .bool false ∧ τ 100 = .bool false) ⟨up rfl (up rfl (up rfl (up rfl (up rfl (up rfl (up rfl (up rfl (up rfl (up rfl (up rfl (up rfl hs0))))))))))), up rfl (up rfl (up rfl (up rfl (up rfl (up rfl (up rfl (up rfl (up rfl (up rfl (up rfl (up rfl hs1))))))))))), up rfl (up rfl (up rfl (up rfl (up rfl (up rfl (up rfl (up rfl (up rfl (up rfl (up rfl (up rfl hs3))))))))))), up rfl (up rfl (up rfl (up rfl (up rfl (up rfl (up rfl (up rfl (up rfl (up rfl (up rfl (up rfl hs14))))))))))), up rfl (up rfl (up rfl (up rfl (up rfl (up rfl (up rfl (up rfl (up rfl (up rfl (up rfl (up rfl hs15))))))))))), up rfl (up rfl (up rfl (up rfl (up rfl (up rfl (up rfl (up rfl (up rfl (up rfl (up rfl (up rfl hs16))))))))))), up rfl (up rfl (up rfl (up rfl (up rfl (up rfl (up rfl (up rfl (up rfl (up rfl (up rfl (up rfl hs17))))))))))), up rfl (up rfl (up rfl (up rfl (up rfl (up rfl (up rfl (up rfl (up rfl (up rfl (up rfl (up rfl hs70))))))))))), up rfl (up rfl (up rfl (up rfl (up rfl (up rfl (up rfl (up rfl (up rfl (up rfl (up rfl (up rfl hs82))))))))))), tp⟩ ?_
              rintro τ ⟨hs0, hs1, hs3, hs14, hs15, hs16, hs17, hs70, hs82, hs100⟩
              refine CW.condF (AF_ev rfl hs100) ?_
              refine CW.skip ?_
              refine Th.n ?_
              refine CW.seq ?_
              have hst := hst.take (.there .here)
              obtain ⟨X, c, hi, hn, hE, hcc, hX, hst⟩ := refOpen hst
              have hr : findJ i t (ts es) idx (ts l) 0 = (j : Int) := by rw [hf, drop_ts hz]; unfold findJ; rw [if_pos hstop]
              have hsp := findJ_spec (i := i) (t := t) (idx := idx) (T := ts es) (ts l) 0 (by omega) (by omega) (by omega)
              rw [hr] at hsp
              have hnc := St_nilcap (hst.take (.there .here))
              obtain ⟨off, hoff⟩ : ∃ z, z = if j = cl then o0 else o0 + j * 4 := ⟨_, rfl⟩
              have hlj : (es.take (idx + 1 + ((j : Nat) : Int) - i - 1).toNat).length = (idx + 1 + ((j : Nat) : Int) - i - 1).toNat := by rw [List.length_take]; omega
              have hdj : (l.drop j).length = l.length - j := List.length_drop
              refine CW.regionD [0, 2, 3, 4, 5, 6, 7, 8, 9, 10, 11, 12, 13, 15, 16, 17] (fun w => w.cell? ⟨b, 2, none⟩ = some (.slice X es.length c) ∧ w.cell? ⟨b, 0, none⟩ = some (.int .i64 i)) mixed ?_
              have hst := hst.drew
              generalize w.drew = w at hst ⊢
              have hS : w.cell? ⟨b, 2, none⟩ = some (.slice X es.length c) ∧ w.cell? ⟨b, 0, none⟩ = some (.int .i64 i) := ⟨hst.cell .here rfl, hst.cell .here rfl⟩
              refine RD.take 0 rfl (by kernel_rfl) Wd.a (v := .pointer (some ⟨b, 0, none⟩)) (fun w hS => by exact E.move (AF_ev rfl hs0)) hS ?_
              refine RD.take 2 rfl (by kernel_rfl) Wd.a (v := .pointer (some ⟨b, 0, none⟩)) (fun w hS => by exact E.move (AF_ev rfl (up rfl hs0))) hS ?_
              refine RD.take 3 rfl (by kernel_rfl) Wd.a (v := .pointer (some ⟨b, 0, none⟩)) (fun w hS => by exact E.nilCheck (a := ⟨b, 0, none⟩) (AF_ev rfl tp)) hS ?_
              refine RD.take 4 rfl (by kernel_rfl) Wd.a (v := .pointer (some ⟨b, 2, none⟩)) (fun w hS => by exact E.fieldAddr (b := b) (o := 0) (f := { name := "L", type := 44, offset := 2, embedded := false, tag := "", pkgPath := "", byteOffset := 16 }) (AF_ev rfl tp) Try.underlying106 rfl sz44 rfl) hS ?_
              refine RD.take 5 rfl (by kernel_rfl) Wd.a (v := .slice X es.length c) (fun w hS => by exact E.load (a := ⟨b, 2, none⟩) Try.underlying44 rfl (AF_ev rfl tp) hS.1) hS ?_
              refine RD.take 6 rfl (by kernel_rfl) Wd.a (v := .int .i64 (idx + 1 + ((j : Nat) : Int))) (fun w hS => by exact E.move (AF_ev rfl (up rfl (up rfl (up rfl (up rfl (up rfl hs15))))))) hS ?_
              refine RD.take 7 rfl (by kernel_rfl) Wd.a (v := .pointer (some ⟨b, 0, none⟩)) (fun w hS => by exact E.move (AF_ev rfl (up rfl (up rfl (up rfl (up rfl (up rfl (up rfl hs0)))))))) hS ?_
              refine RD.take 8 rfl (by kernel_rfl) Wd.a (v := .pointer (some ⟨b, 0, none⟩)) (fun w hS => by exact E.nilCheck (a := ⟨b, 0, none⟩) (AF_ev rfl tp)) hS ?_
              refine RD.take 9 rfl (by kernel_rfl) Wd.a (v := .pointer (some ⟨b, 0, none⟩)) (fun w hS => by exact E.fieldAddr (b := b) (o := 0) (f := { name := "Index", type := 3, offset := 0, embedded := false, tag := "", pkgPath := "", byteOffset := 0 }) (AF_ev rfl tp) Try.underlying106 rfl sz3 rfl) hS ?_
              refine RD.take 10 rfl (by kernel_rfl) Wd.a (v := .int .i64 i) (fun w hS => by exact E.load (a := ⟨b, 0, none⟩) Try.underlying3 rfl (AF_ev rfl tp) hS.2) hS ?_
              refine RD.take 11 rfl (by kernel_rfl) Wd.a (v := .int .i64 (idx + 1 + ((j : Nat) : Int) - i)) (fun w hS => by exact E.sub (k := .i64) (a := idx + 1 + ((j : Nat) : Int)) (b := i) (AF_ev rfl (up rfl (up rfl (up rfl (up rfl tp))))) (AF_ev rfl tp) (show IntKind.i64.wrap ((idx + 1 + ((j : Nat) : Int)) - i) = idx + 1 + ((j : Nat) : Int) - i from (by rw [IntWalk.i64_in _ (by omega)] <;> omega))) hS ?_
              refine RD.take 12 rfl (by kernel_rfl) Wd.a (v := .int .i64 (idx + 1 + ((j : Nat) : Int) - i - 1)) (fun w hS => by exact E.sub (k := .i64) (a := idx + 1 + ((j : Nat) : Int) - i) (b := 1) (AF_ev rfl tp) rfl (show IntKind.i64.wrap ((idx + 1 + ((j : Nat) : Int) - i) - 1) = idx + 1 + ((j : Nat) : Int) - i - 1 from (by rw [IntWalk.i64_in _ (by omega)] <;> omega))) hS ?_
              refine RD.take 13 rfl (by kernel_rfl) Wd.a (v := .slice X ((es.take (idx + 1 + ((j : Nat) : Int) - i - 1).toNat).length) c) (fun w hS => by exact E_sliceTo (X := X) (l := es.length) (c := c) (j := (es.take (idx + 1 + ((j : Nat) : Int) - i - 1).toNat).length) Try.underlying44 sz58 (AF_ev rfl (up rfl (up rfl (up rfl (up rfl (up rfl (up rfl (up rfl tp)))))))) (int_eq (a := idx + 1 + ((j : Nat) : Int) - i - 1) (AF_ev rfl tp) (by omega)) (by omega) hnc) hS ?_
              refine RD.take 15 rfl (by kernel_rfl) Wd.a (v := .slice (some ⟨b0, o0, none⟩) l.length cl) (fun w hS => by exact E.move (AF_ev rfl (up rfl (up rfl (up rfl (up rfl (up rfl (up rfl (up rfl (up rfl (up rfl (up rfl (up rfl (up rfl (up rfl hs3))))))))))))))) hS ?_
              refine RD.take 16 rfl (by kernel_rfl) Wd.a (v := .int .i64 ((j : Nat) : Int)) (fun w hS => by exact E.move (AF_ev rfl (up rfl (up rfl (up rfl (up rfl (up rfl (up rfl (up rfl (up rfl (up rfl (up rfl (up rfl (up rfl (up rfl (up rfl hs14)))))))))))))))) hS ?_
              refine RD.take 17 rfl (by kernel_rfl) Wd.a (v := .slice (some ⟨b0, off, none⟩) ((l.drop j).length) (cl - j)) (fun w hS => by exact E.slice (i := j) (j := l.length) Try.underlying44 sz58 (AF_ev rfl (up rfl tp)) (AF_ev rfl tp) rfl (by omega) (by omega) (by rw [hoff, List.length_drop])) hS ?_
              refine RD.only 1 rfl (by kernel_rfl) Wd.a ?_
              refine H.buildSlice (e := 58) (cs := #[]) (vs := #[]) (by simp) (fun _ => by kernel_rfl) hst fun b14 w hst => ?_
              have hS : w.cell? ⟨b, 2, none⟩ = some (.slice X es.length c) ∧ w.cell? ⟨b, 0, none⟩ = some (.int .i64 i) := ⟨hst.cell (.there .here) rfl, hst.cell (.there .here) rfl⟩
              refine ⟨fun _ => hS, ?_⟩
              refine RD.only 14 rfl (by kernel_rfl) Wd.a ?_
              have hst := hst.ownNew (n := 0) (cap := 0) (sz := 4) (xs := []) (by omega) (by simp [maxLen]) rfl rfl
              refine H.append2 (n2 := (es.take (idx + 1 + ((j : Nat) : Int) - i - 1).toNat).length) (xs2 := flat (es.take (idx + 1 + ((j : Nat) : Int) - i - 1).toNat)) (by first | rfl | simp) (by first | rfl | simp) (m := (es.take (idx + 1 + ((j : Nat) : Int) - i - 1).toNat).length) (news := flat (es.take (idx + 1 + ((j : Nat) : Int) - i - 1).toNat)) (s0 := .slice (some ⟨b14, 0, none⟩) 0 0) (x0 := .slice X ((es.take (idx + 1 + ((j : Nat) : Int) - i - 1).toNat).length) c) Try.underlying44 inf58 rfl (AF_ev rfl tp) (AF_ev rfl (up rfl (up rfl (up rfl (up rfl tp))))) hst .here (by have q := (Own.src (hst.take (.there (.there .here)))).take (k := (idx + 1 + ((j : Nat) : Int) - i - 1).toNat) (by omega); rw [flat_take] at q; rw [hlj]; exact q) (flat_one _) (by omega) (by simp only [maxLen]; omega) ?_
              intro vX15 w hnilX15 hst
              obtain ⟨X15, c16, rfl, hcX15, hmX15, hlX15, hbX15⟩ := hst.shape
              have hS : w.cell? ⟨b, 2, none⟩ = some (.slice X es.length c) ∧ w.cell? ⟨b, 0, none⟩ = some (.int .i64 i) := ⟨hst.cell (.there .here) rfl, hst.cell (.there .here) rfl⟩
              refine ⟨fun _ => hS, ?_⟩
              refine RD.only 18 rfl (by kernel_rfl) Wd.a ?_
              refine H.append2 (n2 := (es.take (idx + 1 + ((j : Nat) : Int) - i - 1).toNat).length + ((l.drop j).length)) (xs2 := (flat (es.take (idx + 1 + ((j : Nat) : Int) - i - 1).toNat)) ++ (flat (l.drop j))) (by first | rfl | simp) (by first | rfl | simp) (m := (l.drop j).length) (news := flat (l.drop j)) (s0 := .slice X15 ((es.take (idx + 1 + ((j : Nat) : Int) - i - 1).toNat).length) c16) (x0 := .slice (some ⟨b0, off, none⟩) ((l.drop j).length) (cl - j)) Try.underlying44 inf58 rfl (AF_ev rfl tp) (AF_ev rfl (up rfl (up rfl tp))) hst .here (by have q := (hA.src (hst.take (.there (.there (.there (.there .here)))))).lower (k := j) (by omega); rw [flat_drop, ← hoff, ← List.length_drop] at q; exact q) (flat_one _) (by omega) (by simp only [maxLen]; omega) ?_
              intro vX17 w hnilX17 hst
              obtain ⟨X17, c18, rfl, hcX17, hmX17, hlX17, hbX17⟩ := hst.shape
              have hS : w.cell? ⟨b, 2, none⟩ = some (.slice X es.length c) ∧ w.cell? ⟨b, 0, none⟩ = some (.int .i64 i) := ⟨hst.cell (.there .here) rfl, hst.cell (.there .here) rfl⟩
              refine ⟨fun _ => hS, ?_⟩
              refine RD.only 19 rfl (by kernel_rfl) Wd.a (Hd.value (v := .pointer (some ⟨b, 0, none⟩)) (by exact E.nilCheck (a := ⟨b, 0, none⟩) (AF_ev rfl (up rfl (up rfl (up rfl (up rfl (up rfl (up rfl (up rfl (up rfl (up rfl (up rfl (up rfl (up rfl (up rfl (up rfl (up rfl (up rfl (up rfl (up rfl tp)))))))))))))))))))) ⟨fun h => Bool.noConfusion ((show needs _ _ _ = false by kernel_rfl).symm.trans h), ?_⟩)
              refine RD.only 20 rfl (by kernel_rfl) Wd.a (Hd.value (v := .pointer (some ⟨b, 2, none⟩)) (by exact E.fieldAddr (b := b) (o := 0) (f := { name := "L", type := 44, offset := 2, embedded := false, tag := "", pkgPath := "", byteOffset := 16 }) (AF_ev rfl tp) Try.underlying106 rfl sz44 rfl) ⟨fun h => Bool.noConfusion ((show needs _ _ _ = false by kernel_rfl).symm.trans h), ?_⟩)
              refine RD.only 21 rfl (by kernel_rfl) Wd.a ?_
              refine H.store (b := b) (o := 2) (v := .slice X17 ((es.take (idx + 1 + ((j : Nat) : Int) - i - 1).toNat).length + ((l.drop j).length)) c18) (c' := #[.int .i64 i, .int .i64 t, .slice X17 ((es.take (idx + 1 + ((j : Nat) : Int) - i - 1).toNat).length + ((l.drop j).length)) c18]) (AF_ev rfl tp) (AF_ev rfl (up rfl (up rfl tp))) hst (.there .here) sz44 (by simp [Value.cells]) (by simp [Value.cells, Value.oneCell']) rfl fun w hst => ?_
              refine ⟨fun h => Bool.noConfusion ((show needs _ _ _ = false by kernel_rfl).symm.trans h), ?_⟩
              refine RD.fin (by kernel_rfl) (fun τ => τ 0 = .pointer (some ⟨b, 0, none⟩) ∧ τ 1 = .int .i64 idx ∧ τ 3 = .slice (some ⟨b0, o0, none⟩) l.length cl ∧ τ 14 = .int .i64 ((j : Nat) : Int) ∧ τ 15 = .int .i64 (idx + 1 + ((j : Nat) : Int)) ∧ τ 16 = .pointer (some ⟨b8, 0, none⟩) ∧ τ 17 = .int .i64 (atE i es (idx + 1 + ((j : Nat) : Int))) ∧ τ 70 = .bool true ∧ τ 82 = .bool false ∧ τ 100 = .bool false) ⟨u0 (up rfl (up rfl (up rfl (up rfl (up rfl (up rfl (up rfl (up rfl (up rfl (up rfl (up rfl (up rfl (up rfl (up rfl (up rfl (up rfl (up rfl (up rfl (up rfl (up rfl (up rfl hs0))))))))))))))))))))), u0 (up rfl (up rfl (up rfl (up rfl (up rfl (up rfl (up rfl (up rfl (up rfl (up rfl (up rfl (up rfl (up rfl (up rfl (up rfl (up rfl (up rfl (up rfl (up rfl (up rfl (up rfl hs1))))))))))))))))))))), u0 (up rfl (up rfl (up rfl (up rfl (up rfl (up rfl (up rfl (up rfl (up rfl (up rfl (up rfl (up rfl (up rfl (up rfl (up rfl (up rfl (up rfl (up rfl (up rfl (up rfl (up rfl hs3))))))))))))))))))))), u0 (up rfl (up rfl (up rfl (up rfl (up rfl (up rfl (up rfl (up rfl (up rfl (up rfl (up rfl (up rfl (up rfl (up rfl (up rfl (up rfl (up rfl (up rfl (up rfl (up rfl (up rfl hs14))))))))))))))))))))), u0 (up rfl (up rfl (up rfl (up rfl (up rfl (up rfl (up rfl (up rfl (up rfl (up rfl (up rfl (up rfl (up rfl (up rfl (up rfl (up rfl (up rfl (up rfl (up rfl (up rfl (up rfl hs15))))))))))))))))))))), u0 (up rfl (up rfl (up rfl (up rfl (up rfl (up rfl (up rfl (up rfl (up rfl (up rfl (up rfl (up rfl (up rfl (up rfl (up rfl (up rfl (up rfl (up rfl (up rfl (up rfl (up rfl hs16))))))))))))))))))))), u0 (up rfl (up rfl (up rfl (up rfl (up rfl (up rfl (up rfl (up rfl (up rfl (up rfl (up rfl (up rfl (up rfl (up rfl (up rfl (up rfl (up rfl (up rfl (up rfl (up rfl (up rfl hs17))))))))))))))))))))), u0 (up rfl (up rfl (up rfl (up rfl (up rfl (up rfl (up rfl (up rfl (up rfl (up rfl (up rfl (up rfl (up rfl (up rfl (up rfl (up rfl (up rfl (up rfl (up rfl (up rfl (up rfl hs70))))))))))))))))))))), u0 (up rfl (up rfl (up rfl (up rfl (up rfl (up rfl (up rfl (up rfl (up rfl (up rfl (up rfl (up rfl (up rfl (up rfl (up rfl (up rfl (up rfl (up rfl (up rfl (up rfl (up rfl hs82))))))))))))))))))))), u0 (up rfl (up rfl (up rfl (up rfl (up rfl (up rfl (up rfl (up rfl (up rfl (up rfl (up rfl (up rfl (up rfl (up rfl (up rfl (up rfl (up rfl (up rfl (up rfl (up rfl (up rfl hs100)))))))))))))))))))))⟩ ?_
              rintro τ ⟨hs0, hs1, hs3, hs14, hs15, hs16, hs17, hs70, hs82, hs100⟩
              refine CW.seq ?_
              refine CW.region ?_
              refine RW.soft Wd.a (v := .int .i64 idx) (by exact E.move (AF_ev rfl hs1)) ?_
              refine RW.soft Wd.a (v := .slice (some ⟨b0, o0, none⟩) l.length cl) (by exact E.move (AF_ev rfl (up rfl hs3))) ?_
              refine RW.soft Wd.a (v := .int .i64 ((l.length : Nat) : Int)) (by exact E.lenS (p := (some ⟨b0, o0, none⟩)) (l := l.length) (c := cl) Try.underlying44 (AF_ev rfl tp)) ?_
              refine RW.soft Wd.a (v := .int .i64 (idx + ((l.length : Nat) : Int))) (by exact E.add (k := .i64) (a := idx) (b := ((l.length : Nat) : Int)) (AF_ev rfl (up rfl (up rfl tp))) (AF_ev rfl tp) (show IntKind.i64.wrap (idx + ((l.length : Nat) : Int)) = idx + ((l.length : Nat) : Int) from (by rw [IntWalk.i64_in _ (by omega)]))) ?_
              refine RW.soft Wd.a (v := .int .i64 (idx + 1 + ((j : Nat) : Int))) (by exact E.move (AF_ev rfl (up rfl (up rfl (up rfl (up rfl hs15)))))) ?_
              refine RW.soft Wd.a (v := .int .i64 (idx + ((l.length : Nat) : Int))) (by exact E.assign (AF_ev rfl (up rfl tp))) ?_
              refine RW.soft Wd.a (v := .int .i64 (idx + 1 + ((j : Nat) : Int))) (by exact E.assign (AF_ev rfl (up rfl tp))) ?_
              refine RW.soft Wd.a (v := .bool true) (by exact E.assign rfl) ?_
              refine RW.fin (fun τ => τ 0 = .pointer (some ⟨b, 0, none⟩) ∧ τ 1 = .int .i64 idx ∧ τ 3 = .slice (some ⟨b0, o0, none⟩) l.length cl ∧ τ 8 = .int .i64 (idx + ((l.length : Nat) : Int)) ∧ τ 9 = .int .i64 (idx + 1 + ((j : Nat) : Int)) ∧ τ 10 = .bool true ∧ τ 14 = .int .i64 ((j : Nat) : Int) ∧ τ 15 = .int .i64 (idx + 1 + ((j : Nat) : Int)) ∧ τ 16 = .pointer (some ⟨b8, 0, none⟩) ∧ τ 17 = .int .i64 (atE i es (idx + 1 + ((j : Nat) : Int))) ∧ τ 70 = .bool true ∧ τ 82 = .bool false ∧ τ 100 = .bool false) ⟨up rfl (up rfl (up rfl (up rfl (up rfl (up rfl (up rfl (up rfl hs0))))))), up rfl (up rfl (up rfl (up rfl (up rfl (up rfl (up rfl (up rfl hs1))))))), up rfl (up rfl (up rfl (up rfl (up rfl (up rfl (up rfl (up rfl hs3))))))), up rfl (up rfl tp), up rfl tp, tp, up rfl (up rfl (up rfl (up rfl (up rfl (up rfl (up rfl (up rfl hs14))))))), up rfl (up rfl (up rfl (up rfl (up rfl (up rfl (up rfl (up rfl hs15))))))), up rfl (up rfl (up rfl (up rfl (up rfl (up rfl (up rfl (up rfl hs16))))))), up rfl (up rfl (up rfl (up rfl (up rfl (up rfl (up rfl (up rfl hs17))))))), up rfl (up rfl (up rfl (up rfl (up rfl (up rfl (up rfl (up rfl hs70))))))), up rfl (up rfl (up rfl (up rfl (up rfl (up rfl (up rfl (up rfl hs82))))))), up rfl (up rfl (up rfl (up rfl (up rfl (up rfl (up rfl (up rfl hs100)))))))⟩ ?_
              rintro τ ⟨hs0, hs1, hs3, hs8, hs9, hs10, hs14, hs15, hs16, hs17, hs70, hs82, hs100⟩
              refine CW.ret ?_
              refine Bl.r ?_
              refine Th.r ?_
              refine Th.r ?_
              refine Bl.r ?_
              refine Th.r ?_
              refine retN (rs := [.tmp 8, .tmp 9, .tmp 10]) (vs := [.int .i64 (idx + ((l.length : Nat) : Int)), .int .i64 (idx + 1 + ((j : Nat) : Int)), .bool true]) rfl (by exact (.tmp (AF_ev rfl hs8) (.tmp (AF_ev rfl hs9) (.tmp (AF_ev rfl hs10) .nil)))) (by simp) ?_
              have hst := hst.take (.there (.there (.there (.there .here))))
              have hst := hst.take (.there .here)
              have hst := hst.take (.there (.there .here))
              have hst := (hst.take (.there (.there (.there .here)))).drop
              have hst := (hst.take (.there (.there (.there .here)))).drop
              have hnr : ¬ findJ i t (ts es) idx (ts l) 0 < 0 := by omega
              have hlN : (es.take (idx + 1 + ((j : Nat) : Int) - i - 1).toNat ++ l.drop j).length = (es.take (idx + 1 + ((j : Nat) : Int) - i - 1).toNat).length + (l.drop j).length := List.length_append
              have hst : St p w (pt b (.cells #[.int .i64 i, .int .i64 t, .slice X17 (es.take (idx + 1 + ((j : Nat) : Int) - i - 1).toNat ++ l.drop j).length c18] 106) :: Own 58 4 (.slice X17 (es.take (idx + 1 + ((j : Nat) : Int) - i - 1).toNat ++ l.drop j).length c18) (es.take (idx + 1 + ((j : Nat) : Int) - i - 1).toNat ++ l.drop j).length (flat (es.take (idx + 1 + ((j : Nat) : Int) - i - 1).toNat ++ l.drop j)) :: A :: R) := by rw [hlN, flat_append]; exact hst
              have hJL : joinL i t (ts es) idx tm (ts l) es l = (es.take (idx + 1 + ((j : Nat) : Int) - i - 1).toNat ++ l.drop j) := by
                unfold joinL; rw [if_neg hnl, if_neg hcl, if_neg hnr, hr]
                rw [show (idx + (j : Int) + 1 - (i + 1)).toNat = (idx + 1 + ((j : Nat) : Int) - i - 1).toNat by omega, Int.toNat_natCast]
              refine ⟨?_, ?_⟩
              · unfold joinA joinF joinO; rw [if_neg hnl, if_neg hnl, if_neg hnl, if_neg hcl, if_neg hcl, if_neg hcl, if_neg hnr, ts_len, hr, show idx + (j : Int) + 1 = idx + 1 + (j : Int) by omega]
              · rw [hJL]; exact refClose hi (by omega) ((hE.take _).append (hEL.drop _)) hst
        · have hc5_ := hc5
          try simp only [decide_eq_true_eq, decide_eq_false_iff_not, Bool.and_eq_true, Bool.or_eq_true, Bool.and_eq_false_iff, Bool.or_eq_false_iff, Bool.not_eq_true', Bool.not_eq_false', beq_iff_eq, beq_eq_false_iff_ne, bne_iff_ne, bne_eq_false_iff_eq, ne_eq, Int.not_lt, Int.not_le, gt_iff_lt, ge_iff_le] at hc5_
          refine CW.exit ?_
          refine Th.x ?_
          refine Th.x ?_
          refine Bl.x ?_
          refine Th.n ?_
          refine CW.seq ?_
          obtain ⟨X, c, hi, hn, hE, hcc, hX, hst⟩ := refOpen hst
          refine CW.region ?_
          refine RW.soft Wd.a (v := .int .i64 idx) (by exact E.move (AF_ev rfl hs1)) ?_
          refine RW.soft Wd.a (v := .slice XL l.length cl) (by exact E.move (AF_ev rfl (up rfl hs3))) ?_
          refine RW.soft Wd.a (v := .int .i64 ((l.length : Nat) : Int)) (by exact E.lenS (p := XL) (l := l.length) (c := cl) Try.underlying44 (AF_ev rfl tp)) ?_
          refine RW.soft Wd.a (v := .int .i64 (idx + ((l.length : Nat) : Int))) (by exact E.add (k := .i64) (a := idx) (b := ((l.length : Nat) : Int)) (AF_ev rfl (up rfl (up rfl tp))) (AF_ev rfl tp) (show IntKind.i64.wrap (idx + ((l.length : Nat) : Int)) = idx + ((l.length : Nat) : Int) from (by rw [IntWalk.i64_in _ (by omega)]))) ?_
          refine RW.soft Wd.a (v := .int .i64 (idx + ((l.length : Nat) : Int))) (by exact E.assign (AF_ev rfl tp)) ?_
          refine RW.soft Wd.a (v := .int .i64 0) (by exact E.assign rfl) ?_
          refine RW.soft Wd.a (v := .bool true) (by exact E.assign rfl) ?_
          refine RW.fin (fun τ => τ 0 = .pointer (some ⟨b, 0, none⟩) ∧ τ 1 = .int .i64 idx ∧ τ 3 = .slice XL l.length cl ∧ τ 8 = .int .i64 (idx + ((l.length : Nat) : Int)) ∧ τ 9 = .int .i64 0 ∧ τ 10 = .bool true ∧ τ 14 = .int .i64 ((j : Nat) : Int) ∧ τ 70 = .bool false) ⟨up rfl (up rfl (up rfl (up rfl (up rfl (up rfl (up rfl hs0)))))), up rfl (up rfl (up rfl (up rfl (up rfl (up rfl (up rfl hs1)))))), up rfl (up rfl (up rfl (up rfl (up rfl (up rfl (up rfl hs3)))))), up rfl (up rfl tp), up rfl tp, tp, up rfl (up rfl (up rfl (up rfl (up rfl (up rfl (up rfl hs14)))))), up rfl (up rfl (up rfl (up rfl (up rfl (up rfl (up rfl (Eq.trans hs70 (congrArg Value.bool hc5))))))))⟩ ?_
          rintro τ ⟨hs0, hs1, hs3, hs8, hs9, hs10, hs14, hs70⟩
          refine CW.ret ?_
          refine retN (rs := [.tmp 8, .tmp 9, .tmp 10]) (vs := [.int .i64 (idx + ((l.length : Nat) : Int)), .int .i64 0, .bool true]) rfl (by exact (.tmp (AF_ev rfl hs8) (.tmp (AF_ev rfl hs9) (.tmp (AF_ev rfl hs10) .nil)))) (by simp) ?_
          have hst := hst.take (.there (.there .here))
          have hst := hst.take (.there (.there .here))
          have hst := hst.take (.there (.there .here))
          obtain rfl : j = l.length := by omega
          have hr : findJ i t (ts es) idx (ts l) 0 < 0 := by rw [hf, List.drop_eq_nil_of_le (by rw [ts_len]; omega)]; unfold findJ; omega
          exact ⟨by unfold joinA joinF joinO; rw [if_neg hnl, if_neg hnl, if_neg hnl, if_neg hcl, if_neg hcl, if_neg hcl, if_pos hr, ts_len], by unfold joinL; rw [if_neg hnl, if_neg hcl, if_pos hr]; exact refClose hi hn hE hst⟩
    · have hc2_ := hc2
      try simp only [decide_eq_true_eq, decide_eq_false_iff_not, Bool.and_eq_true, Bool.or_eq_true, Bool.and_eq_false_iff, Bool.or_eq_false_iff, Bool.not_eq_true', Bool.not_eq_false', beq_iff_eq, beq_eq_false_iff_ne, bne_iff_ne, bne_eq_false_iff_eq, ne_eq, Int.not_lt, Int.not_le, gt_iff_lt, ge_iff_le] at hc2_
      have hlt := of_decide_eq_false hc2
      have hcl : ¬ clash i t (ts es) idx tm = true := by
        have hte : termE i (ts es) idx = 170 := by unfold termE; rw [if_neg (by omega), if_neg (by omega)]
        unfold clash; rw [hte]; simp
      refine CW.skip ?_
      refine Th.n ?_
      refine CW.seq ?_
      refine CW.seq ?_
      have hst := hst.take (.there .here)
      have hst := hst.take (.there .here)
      have hst := refClose hi hn hE hst
      have htl := ts_len l
      have htes := ts_len es
      refine CW.region ?_
      refine RW.soft Wd.a (v := .int .i64 0) (by exact E.assign rfl) ?_
      refine RW.fin (fun τ => τ 0 = .pointer (some ⟨b, 0, none⟩) ∧ τ 1 = .int .i64 idx ∧ τ 2 = .int .i64 tm ∧ τ 3 = .slice XL l.length cl ∧ τ 8 = .int .i64 0 ∧ τ 9 = .int .i64 0 ∧ τ 10 = .bool false ∧ τ 14 = .int .i64 0 ∧ τ 21 = .bool false ∧ τ 29 = .bool false) ⟨up rfl hs0, up rfl hs1, up rfl hs2, up rfl hs3, up rfl hs8, up rfl hs9, up rfl hs10, tp, up rfl hs21, up rfl (Eq.trans hs29 (congrArg Value.bool hc2))⟩ ?_
      rintro τ ⟨hs0, hs1, hs2, hs3, hs8, hs9, hs10, hs14, hs21, hs29⟩
      refine CW.block ?_
      have hst := hst.take (.there .here)
      have hst := hst.take (.there .here)
      refine CW.loop (fun (k : Nat) (τ : Fr) (w : World) => ∃ (j : Nat), findJ i t (ts es) idx (ts l) 0 = findJ i t (ts es) idx ((ts l).drop j) (j : Int) ∧ j ≤ l.length ∧ k = l.length - j ∧ τ 0 = .pointer (some ⟨b, 0, none⟩) ∧ τ 1 = .int .i64 idx ∧ τ 3 = .slice XL l.length cl ∧ τ 14 = .int .i64 ((j : Nat) : Int) ∧ St p w (RefB p b i t es :: A :: R)) (l.length - 0) ⟨0, rfl, by omega, rfl, hs0, hs1, hs3, (int_eq (a := 0) hs14 (by omega)), hst⟩ ?_
      clear hst
      rintro k τ w ⟨j, hf, hj, hkj, hs0, hs1, hs3, hs14, hst⟩
      refine CW.seq ?_
      refine CW.seq ?_
      refine CW.region ?_
      refine RW.soft Wd.a (v := .int .i64 ((j : Nat) : Int)) (by exact E.move (AF_ev rfl hs14)) ?_
      refine RW.soft Wd.a (v := .slice XL l.length cl) (by exact E.move (AF_ev rfl (up rfl hs3))) ?_
      refine RW.soft Wd.a (v := .int .i64 ((l.length : Nat) : Int)) (by exact E.lenS (p := XL) (l := l.length) (c := cl) Try.underlying44 (AF_ev rfl tp)) ?_
      refine RW.soft Wd.a (v := .bool (decide (((j : Nat) : Int) < ((l.length : Nat) : Int)))) (by exact E.lss (k := .i64) (a := ((j : Nat) : Int)) (b := ((l.length : Nat) : Int)) (AF_ev rfl (up rfl (up rfl tp))) (AF_ev rfl tp)) ?_
      refine RW.fin (fun τ => τ 0 = .pointer (some ⟨b, 0, none⟩) ∧ τ 1 = .int .i64 idx ∧ τ 3 = .slice XL l.length cl ∧ τ 14 = .int .i64 ((j : Nat) : Int) ∧ τ 70 = .bool (decide (((j : Nat) : Int) < ((l.length : Nat) : Int)))) ⟨up rfl (up rfl (up rfl (up rfl hs0))), up rfl (up rfl (up rfl (up rfl hs1))), up rfl (up rfl (up rfl (up rfl hs3))), up rfl (up rfl (up rfl (up rfl hs14))), tp⟩ ?_
      rintro τ ⟨hs0, hs1, hs3, hs14, hs70⟩
      refine CW.cond (AF_ev rfl hs70) (fun hc19 => ?_) (fun hc19 => ?_)
      · have hc19_ := hc19
        try simp only [decide_eq_true_eq, decide_eq_false_iff_not, Bool.and_eq_true, Bool.or_eq_true, Bool.and_eq_false_iff, Bool.or_eq_false_iff, Bool.not_eq_true', Bool.not_eq_false', beq_iff_eq, beq_eq_false_iff_ne, bne_iff_ne, bne_eq_false_iff_eq, ne_eq, Int.not_lt, Int.not_le, gt_iff_lt, ge_iff_le] at hc19_
        refine CW.skip ?_
        refine Th.n ?_
        refine CW.seq ?_
        refine CW.block ?_
        refine CW.seq ?_
        obtain ⟨X, c, hi, hn, hE, hcc, hX, hst⟩ := refOpen hst
        have hjl : j < l.length := by omega
        obtain ⟨b0, o0, rfl, hcell0⟩ := hA.place (hst.take (.there (.there .here))) (by omega)
        have hlcl := ((hA.src (hst.take (.there (.there .here)))).len).2.1
        obtain ⟨z, hz⟩ : ∃ z, l[j]? = some z := ⟨l[j]'(by omega), List.getElem?_eq_getElem (by omega)⟩
        refine CW.region ?_
        refine RW.soft Wd.a (v := .int .i64 idx) (by exact E.move (AF_ev rfl hs1)) ?_
        refine RW.soft Wd.a (v := .int .i64 (idx + 1)) (by exact E.add (k := .i64) (a := idx) (b := 1) (AF_ev rfl tp) rfl (show IntKind.i64.wrap (idx + 1) = idx + 1 from (by rw [IntWalk.i64_in _ (by omega)]))) ?_
        refine RW.soft Wd.a (v := .int .i64 ((j : Nat) : Int)) (by exact E.move (AF_ev rfl (up rfl (up rfl hs14)))) ?_
        refine RW.soft Wd.a (v := .int .i64 (idx + 1 + ((j : Nat) : Int))) (by exact E.add (k := .i64) (a := idx + 1) (b := ((j : Nat) : Int)) (AF_ev rfl (up rfl tp)) (AF_ev rfl tp) (show IntKind.i64.wrap ((idx + 1) + ((j : Nat) : Int)) = idx + 1 + ((j : Nat) : Int) from (by rw [IntWalk.i64_in _ (by omega)] <;> omega))) ?_
        refine RW.soft Wd.a (v := .int .i64 (idx + 1 + ((j : Nat) : Int))) (by exact E.assign (AF_ev rfl tp)) ?_
        refine RW.fin (fun τ => τ 0 = .pointer (some ⟨b, 0, none⟩) ∧ τ 1 = .int .i64 idx ∧ τ 3 = .slice (some ⟨b0, o0, none⟩) l.length cl ∧ τ 14 = .int .i64 ((j : Nat) : Int) ∧ τ 15 = .int .i64 (idx + 1 + ((j : Nat) : Int)) ∧ τ 70 = .bool true) ⟨up rfl (up rfl (up rfl (up rfl (up rfl hs0)))), up rfl (up rfl (up rfl (up rfl (up rfl hs1)))), up rfl (up rfl (up rfl (up rfl (up rfl hs3)))), up rfl (up rfl (up rfl (up rfl (up rfl hs14)))), tp, up rfl (up rfl (up rfl (up rfl (up rfl (Eq.trans hs70 (congrArg Value.bool hc19))))))⟩ ?_
        rintro τ ⟨hs0, hs1, hs3, hs14, hs15, hs70⟩
        refine CW.seq ?_
        refine CW.seq ?_
        refine CW.region ?_
        refine RW.soft Wd.a (v := .int .i64 (idx + 1 + ((j : Nat) : Int))) (by exact E.move (AF_ev rfl hs15)) ?_
        refine RW.soft Wd.a (v := .pointer (some ⟨b, 0, none⟩)) (by exact E.move (AF_ev rfl (up rfl hs0))) ?_
        refine RW.soft Wd.a (v := .pointer (some ⟨b, 0, none⟩)) (by exact E.nilCheck (a := ⟨b, 0, none⟩) (AF_ev rfl tp)) ?_
        refine RW.soft Wd.a (v := .pointer (some ⟨b, 0, none⟩)) (by exact E.fieldAddr (b := b) (o := 0) (f := { name := "Index", type := 3, offset := 0, embedded := false, tag := "", pkgPath := "", byteOffset := 0 }) (AF_ev rfl tp) Try.underlying106 rfl sz3 rfl) ?_
        refine RW.soft Wd.a (v := .int .i64 i) (by exact E.load (a := ⟨b, 0, none⟩) Try.underlying3 rfl (AF_ev rfl tp) (hst.cell .here rfl)) ?_
        refine RW.soft Wd.a (v := .bool (decide ((idx + 1 + ((j : Nat) : Int)) ≤ i))) (by exact E.leq (k := .i64) (a := idx + 1 + ((j : Nat) : Int)) (b := i) (AF_ev rfl (up rfl (up rfl (up rfl (up rfl tp))))) (AF_ev rfl tp)) ?_
        refine RW.fin (fun τ => τ 0 = .pointer (some ⟨b, 0, none⟩) ∧ τ 1 = .int .i64 idx ∧ τ 3 = .slice (some ⟨b0, o0, none⟩) l.length cl ∧ τ 14 = .int .i64 ((j : Nat) : Int) ∧ τ 15 = .int .i64 (idx + 1 + ((j : Nat) : Int)) ∧ τ 70 = .bool true ∧ τ 82 = .bool (decide ((idx + 1 + ((j : Nat) : Int)) ≤ i))) ⟨up rfl (up rfl (up rfl (up rfl (up rfl (up rfl hs0))))), up rfl (up rfl (up rfl (up rfl (up rfl (up rfl hs1))))), up rfl (up rfl (up rfl (up rfl (up rfl (up rfl hs3))))), up rfl (up rfl (up rfl (up rfl (up rfl (up rfl hs14))))), up rfl (up rfl (up rfl (up rfl (up rfl (up rfl hs15))))), up rfl (up rfl (up rfl (up rfl (up rfl (up rfl hs70))))), tp⟩ ?_
        rintro τ ⟨hs0, hs1, hs3, hs14, hs15, hs70, hs82⟩
        refine CW.cond (AF_ev rfl hs82) (fun hc20 => ?_) (fun hc20 => ?_)
        · have hc20_ := hc20
          try simp only [decide_eq_true_eq, decide_eq_false_iff_not, Bool.and_eq_true, Bool.or_eq_true, Bool.and_eq_false_iff, Bool.or_eq_false_iff, Bool.not_eq_true', Bool.not_eq_false', beq_iff_eq, beq_eq_false_iff_ne, bne_iff_ne, bne_eq_false_iff_eq, ne_eq, Int.not_lt, Int.not_le, gt_iff_lt, ge_iff_le] at hc20_
          have hns : stopB i t (ts es) (idx + (j : Int) + 1) z.term = false := by unfold stopB; rw [decide_eq_false (by have := of_decide_eq_true hc20; omega)]; rfl
          refine CW.exit ?_
          refine Th.x ?_
          refine Bl.x ?_
          refine Th.n ?_
          refine CW.region ?_
          refine RW.soft Wd.a (v := .int .i64 ((j : Nat) : Int)) (by exact E.move (AF_ev rfl hs14)) ?_
          refine RW.soft Wd.a (v := .int .i64 (((j : Nat) : Int) + 1)) (by exact E.add (k := .i64) (a := ((j : Nat) : Int)) (b := 1) (AF_ev rfl tp) rfl (show IntKind.i64.wrap (((j : Nat) : Int) + 1) = ((j : Nat) : Int) + 1 from (by rw [IntWalk.i64_in _ (by omega)]))) ?_
          refine RW.soft Wd.a (v := .int .i64 (((j : Nat) : Int) + 1)) (by exact E.assign (AF_ev rfl tp)) ?_
          refine RW.nil ?_
          refine Th.n ?_
          have hst := hst.take (.there .here)
          have hst := hst.take (.there .here)
          have hst := refClose hi hn hE hst
          have hff : findJ i t (ts es) idx (ts l) 0 = findJ i t (ts es) idx ((ts l).drop (j + 1)) ((j + 1 : Nat) : Int) := by
            rw [hf, drop_ts hz]; conv => lhs; unfold findJ
            rw [if_neg (by rw [hns]; simp)]; rfl
          have hst := hst.take (.there .here)
          have hst := hst.take (.there .here)
          exact ⟨l.length - (j + 1), by omega, j + 1, hff, (by omega), (by omega), up rfl (up rfl (up rfl hs0)), up rfl (up rfl (up rfl hs1)), up rfl (up rfl (up rfl hs3)), (int_eq (a := ((j : Nat) : Int) + 1) tp (by omega)), hst⟩
        · have hc20_ := hc20
          try simp only [decide_eq_true_eq, decide_eq_false_iff_not, Bool.and_eq_true, Bool.or_eq_true, Bool.and_eq_false_iff, Bool.or_eq_false_iff, Bool.not_eq_true', Bool.not_eq_false', beq_iff_eq, beq_eq_false_iff_ne, bne_iff_ne, bne_eq_false_iff_eq, ne_eq, Int.not_lt, Int.not_le, gt_iff_lt, ge_iff_le] at hc20_
          have hgi := of_decide_eq_false hc20
          refine CW.skip ?_
          refine Th.n ?_
          refine CW.seq ?_
          refine CW.region ?_
          refine RW.soft Wd.a (v := .pointer (some ⟨b, 0, none⟩)) (by exact E.move (AF_ev rfl hs0)) ?_
          refine RW.soft Wd.a (v := .int .i64 (idx + 1 + ((j : Nat) : Int))) (by exact E.move (AF_ev rfl (up rfl hs15))) ?_
          have hst := hst.take (.there .here)
          have hst := hst.take (.there .here)
          have hst := refClose hi hn hE hst
          refine RW.hard Wd.a ?_
          refine H.call0 Try.func60 nm60 rfl (map2 (AF_ev rfl (up rfl tp)) (AF_ev rfl tp)) (Calls.mono (ref_At (idx + 1 + ((j : Nat) : Int)) (by omega) hst) ?_)
          rintro _ w ⟨x21, hx21, rfl, hst⟩
          refine ⟨_, rfl, ?_⟩
          show RW _ _ _ _ _ _ _
          refine RW.soft Wd.a (v := .tuple #[.agg #[.int .i64 x21.term, .int .i64 x21.kind, .slice x21.X x21.ns.length x21.xc, .slice x21.Y x21.ms.length x21.yc], .int .i64 (atE i es (idx + 1 + ((j : Nat) : Int)))]) (by exact E.move (AF_ev rfl tp)) ?_
          refine RW.soft Wd.a (v := .agg #[.int .i64 x21.term, .int .i64 x21.kind, .slice x21.X x21.ns.length x21.xc, .slice x21.Y x21.ms.length x21.yc]) (by exact E.extract (vs := #[.agg #[.int .i64 x21.term, .int .i64 x21.kind, .slice x21.X x21.ns.length x21.xc, .slice x21.Y x21.ms.length x21.yc], .int .i64 (atE i es (idx + 1 + ((j : Nat) : Int)))]) (AF_ev rfl tp) rfl) ?_
          refine RW.soft Wd.a (v := .int .i64 (atE i es (idx + 1 + ((j : Nat) : Int)))) (by exact E.extract (vs := #[.agg #[.int .i64 x21.term, .int .i64 x21.kind, .slice x21.X x21.ns.length x21.xc, .slice x21.Y x21.ms.length x21.yc], .int .i64 (atE i es (idx + 1 + ((j : Nat) : Int)))]) (AF_ev rfl (up rfl tp)) rfl) ?_
          refine RW.hard Wd.a ?_
          refine H.alloc zr58 hst fun b22 w hst => ?_
          refine RW.hard Wd.a ?_
          refine H.store (b := b22) (o := 0) (v := .agg #[.int .i64 x21.term, .int .i64 x21.kind, .slice x21.X x21.ns.length x21.xc, .slice x21.Y x21.ms.length x21.yc]) (c' := #[.int .i64 x21.term, .int .i64 x21.kind, .slice x21.X x21.ns.length x21.xc, .slice x21.Y x21.ms.length x21.yc]) (AF_ev rfl tp) (AF_ev rfl (up rfl (up rfl tp))) hst .here sz58 (by simp [Value.cells]) (by simp [Value.cells, Value.oneCell']) rfl fun w hst => ?_
          refine RW.soft Wd.a (v := .int .i64 (atE i es (idx + 1 + ((j : Nat) : Int)))) (by exact E.assign (AF_ev rfl (u0 (up rfl tp)))) ?_
          refine RW.fin (fun τ => τ 0 = .pointer (some ⟨b, 0, none⟩) ∧ τ 1 = .int .i64 idx ∧ τ 3 = .slice (some ⟨b0, o0, none⟩) l.length cl ∧ τ 14 = .int .i64 ((j : Nat) : Int) ∧ τ 15 = .int .i64 (idx + 1 + ((j : Nat) : Int)) ∧ τ 16 = .pointer (some ⟨b22, 0, none⟩) ∧ τ 17 = .int .i64 (atE i es (idx + 1 + ((j : Nat) : Int))) ∧ τ 70 = .bool true ∧ τ 82 = .bool false) ⟨up rfl (u0 (up rfl (up rfl (up rfl (up rfl (up rfl (up rfl (up rfl hs0)))))))), up rfl (u0 (up rfl (up rfl (up rfl (up rfl (up rfl (up rfl (up rfl hs1)))))))), up rfl (u0 (up rfl (up rfl (up rfl (up rfl (up rfl (up rfl (up rfl hs3)))))))), up rfl (u0 (up rfl (up rfl (up rfl (up rfl (up rfl (up rfl (up rfl hs14)))))))), up rfl (u0 (up rfl (up rfl (up rfl (up rfl (up rfl (up rfl (up rfl hs15)))))))), up rfl (u0 tp), tp, up rfl (u0 (up rfl (up rfl (up rfl (up rfl (up rfl (up rfl (up rfl hs70)))))))), up rfl (u0 (up rfl (up rfl (up rfl (up rfl (up rfl (up rfl (up rfl (Eq.trans hs82 (congrArg Value.bool hc20))))))))))⟩ ?_
          rintro τ ⟨hs0, hs1, hs3, hs14, hs15, hs16, hs17, hs70, hs82⟩
          refine CW.seq ?_
          refine CW.seq ?_
          refine Or.elim (Bool.eq_false_or_eq_true ((atE i es (idx + 1 + ((j : Nat) : Int))) == 0)) (fun ha => ?_) (fun ha => ?_)
          · skip
            refine Or.elim (Bool.eq_false_or_eq_true (x21.term == z.term)) (fun hb => ?_) (fun hb => ?_)
            · skip
              have hk2 : idx + (j : Int) + 1 = idx + 1 + ((j : Nat) : Int) := by omega
              have hkne : (idx + 1 + ((j : Nat) : Int)) ≠ i := by omega
              have hns : stopB i t (ts es) (idx + (j : Int) + 1) z.term = false := by
                unfold stopB; rw [hk2, termE_atE hkne, termT_atX hkne, ← hx21, beq_iff_eq.1 ha, beq_iff_eq.1 hb]; simp
              refine CW.regionD [0, 1, 2, 3, 4, 5, 6, 7, 8, 9, 10, 11] (fun w => w.cell? ⟨b22, 0, none⟩ = some (.int .i64 x21.term) ∧ w.cell? ⟨b0, o0 + j * 4, none⟩ = some (.int .i64 z.term)) mixed ?_
              have hst := hst.drew
              generalize w.drew = w at hst ⊢
              have hS : w.cell? ⟨b22, 0, none⟩ = some (.int .i64 x21.term) ∧ w.cell? ⟨b0, o0 + j * 4, none⟩ = some (.int .i64 z.term) := ⟨hst.cell .here rfl, (hcell0 p.le_refl (hst.take (.there (.there .here))) _ _ (flat_get Ent.enc_len hz (j := 0) rfl))⟩
              refine RD.take 0 rfl (by kernel_rfl) Wd.a (v := .int .i64 (atE i es (idx + 1 + ((j : Nat) : Int)))) (fun w hS => by exact E.move (AF_ev rfl hs17)) hS ?_
              refine RD.take 1 rfl (by kernel_rfl) Wd.a (v := .bool true) (fun w hS => by exact E.b (a := (atE i es (idx + 1 + ((j : Nat) : Int))) == 0) (E.eql (k := .i64) (a := atE i es (idx + 1 + ((j : Nat) : Int))) (b := 0) (AF_ev rfl tp) rfl) ha) hS ?_
              refine RD.take 2 rfl (by kernel_rfl) Wd.a (v := .bool true) (fun w hS => by exact E.move (AF_ev rfl tp)) hS ?_
              refine RD.take 3 rfl (by kernel_rfl) (by exact Wd.yes (x := 91) rfl (AF_ev rfl tp)) (v := .pointer (some ⟨b22, 0, none⟩)) (fun w hS => by exact E.fieldAddr (b := b22) (o := 0) (f := { name := "Term", type := 3, offset := 0, embedded := false, tag := "", pkgPath := "", byteOffset := 0 }) (AF_ev rfl (up rfl (up rfl (up rfl hs16)))) Try.underlying58 rfl sz3 rfl) hS ?_
              refine RD.take 4 rfl (by kernel_rfl) (by exact Wd.yes (x := 91) rfl (AF_ev rfl (up rfl tp))) (v := .int .i64 x21.term) (fun w hS => by exact E.load (a := ⟨b22, 0, none⟩) Try.underlying3 rfl (AF_ev rfl tp) hS.1) hS ?_
              refine RD.take 5 rfl (by kernel_rfl) (by exact Wd.yes (x := 91) rfl (AF_ev rfl (up rfl (up rfl tp)))) (v := .slice (some ⟨b0, o0, none⟩) l.length cl) (fun w hS => by exact E.move (AF_ev rfl (up rfl (up rfl (up rfl (up rfl (up rfl hs3))))))) hS ?_
              refine RD.take 6 rfl (by kernel_rfl) (by exact Wd.yes (x := 91) rfl (AF_ev rfl (up rfl (up rfl (up rfl tp))))) (v := .int .i64 ((j : Nat) : Int)) (fun w hS => by exact E.move (AF_ev rfl (up rfl (up rfl (up rfl (up rfl (up rfl (up rfl hs14)))))))) hS ?_
              refine RD.take 7 rfl (by kernel_rfl) (by exact Wd.yes (x := 91) rfl (AF_ev rfl (up rfl (up rfl (up rfl (up rfl tp)))))) (v := .pointer (some ⟨b0, o0 + j * 4, none⟩)) (fun w hS => by exact E.indexAddr (b := b0) (o := o0) (l := l.length) (c := cl) (i := ((j : Nat) : Int)) Try.underlying44 sz58 (AF_ev rfl (up rfl tp)) (AF_ev rfl tp) (by omega) (by omega) (by simp)) hS ?_
              refine RD.take 8 rfl (by kernel_rfl) (by exact Wd.yes (x := 91) rfl (AF_ev rfl (up rfl (up rfl (up rfl (up rfl (up rfl tp))))))) (v := .pointer (some ⟨b0, o0 + j * 4, none⟩)) (fun w hS => by exact E.fieldAddr (b := b0) (o := o0 + j * 4) (f := { name := "Term", type := 3, offset := 0, embedded := false, tag := "", pkgPath := "", byteOffset := 0 }) (AF_ev rfl tp) Try.underlying58 rfl sz3 rfl) hS ?_
              refine RD.take 9 rfl (by kernel_rfl) (by exact Wd.yes (x := 91) rfl (AF_ev rfl (up rfl (up rfl (up rfl (up rfl (up rfl (up rfl tp)))))))) (v := .int .i64 z.term) (fun w hS => by exact E.load (a := ⟨b0, o0 + j * 4, none⟩) Try.underlying3 rfl (AF_ev rfl tp) hS.2) hS ?_
              refine RD.take 10 rfl (by kernel_rfl) (by exact Wd.yes (x := 91) rfl (AF_ev rfl (up rfl (up rfl (up rfl (up rfl (up rfl (up rfl (up rfl tp))))))))) (v := .bool true) (fun w hS => by exact E.b (a := x21.term == z.term) (E.eql (k := .i64) (a := x21.term) (b := z.term) (AF_ev rfl (up rfl (up rfl (up rfl (up rfl (up rfl tp)))))) (AF_ev rfl tp)) hb) hS ?_
              refine RD.take 11 rfl (by kernel_rfl) Wd.a (v := .bool true) (fun w hS => by exact E.pickT (AF_ev rfl (up rfl (up rfl (up rfl (up rfl (up rfl (up rfl (up rfl (up rfl tp))))))))) (AF_ev rfl tp)) hS ?_
              refine RD.fin (by kernel_rfl) (fun τ => τ 0 = .pointer (some ⟨b, 0, none⟩) ∧ τ 1 = .int .i64 idx ∧ τ 3 = .slice (some ⟨b0, o0, none⟩) l.length cl ∧ τ 14 = .int .i64 ((j : Nat) : Int) ∧ τ 15 = .int .i64 (idx + 1 + ((j : Nat) : Int)) ∧ τ 16 = .pointer (some ⟨b22, 0, none⟩) ∧ τ 17 = .int .i64 (atE i es (idx + 1 + ((j : Nat) : Int))) ∧ τ 70 = .bool true ∧ τ 82 = .bool false ∧ τ 100 = .bool true) ⟨up rfl (up rfl (up rfl (up rfl (up rfl (up rfl (up rfl (up rfl (up rfl (up rfl (up rfl (up rfl hs0))))))))))), up rfl (up rfl (up rfl (up rfl (up rfl (up rfl (up rfl (up rfl (up rfl (up rfl (up rfl (up rfl hs1))))))))))), up rfl (up rfl (up rfl (up rfl (up rfl (up rfl (up rfl (up rfl (up rfl (up rfl (up rfl (up rfl hs3))))))))))), up rfl (up rfl (up rfl (up rfl (up rfl (up rfl (up rfl (up rfl (up rfl (up rfl (up rfl (up rfl hs14))))))))))), up rfl (up rfl (up rfl (up rfl (up rfl (up rfl (up rfl (up rfl (up rfl (up rfl (up rfl (up rfl hs15))))))))))), up rfl (up rfl (up rfl (up rfl (up rfl (up rfl (up rfl (up rfl (up rfl (up rfl (up rfl (up rfl hs16))))))))))), up rfl (up rfl (up rfl (up rfl (up rfl (up rfl (up rfl (up rfl (up rfl (up rfl (up rfl (up rfl hs17))))))))))), up rfl (up rfl (up rfl (up rfl (up rfl (up rfl (up rfl (up rfl (up rfl (up rfl (up rfl (up rfl hs70))))))))))), up rfl (up rfl (up rfl (up rfl (up rfl (up rfl (up rfl (up rfl (up rfl (up rfl (up rfl (up rfl hs82))))))))))), tp⟩ ?_
              rintro τ ⟨hs0, hs1, hs3, hs14, hs15, hs16, hs17, hs70, hs82, hs100⟩
              refine CW.condT (AF_ev rfl hs100) ?_
              refine CW.exit ?_
              refine Th.x ?_
              refine Bl.x ?_
              refine Th.n ?_
              refine CW.region ?_
              refine RW.soft Wd.a (v := .int .i64 ((j : Nat) : Int)) (by exact E.move (AF_ev rfl hs14)) ?_
              refine RW.soft Wd.a (v := .int .i64 (((j : Nat) : Int) + 1)) (by exact E.add (k := .i64) (a := ((j : Nat) : Int)) (b := 1) (AF_ev rfl tp) rfl (show IntKind.i64.wrap (((j : Nat) : Int) + 1) = ((j : Nat) : Int) + 1 from (by rw [IntWalk.i64_in _ (by omega)]))) ?_
              refine RW.soft Wd.a (v := .int .i64 (((j : Nat) : Int) + 1)) (by exact E.assign (AF_ev rfl tp)) ?_
              refine RW.nil ?_
              refine Th.n ?_
              have hff : findJ i t (ts es) idx (ts l) 0 = findJ i t (ts es) idx ((ts l).drop (j + 1)) ((j + 1 : Nat) : Int) := by
                rw [hf, drop_ts hz]; conv => lhs; unfold findJ
                rw [if_neg (by rw [hns]; simp)]; rfl
              have hst := hst.take (.there (.there .here))
              have hst := hst.take (.there (.there .here))
              have hst := (hst.take (.there (.there .here))).drop
              exact ⟨l.length - (j + 1), by omega, j + 1, hff, (by omega), (by omega), up rfl (up rfl (up rfl hs0)), up rfl (up rfl (up rfl hs1)), up rfl (up rfl (up rfl hs3)), (int_eq (a := ((j : Nat) : Int) + 1) tp (by omega)), hst⟩
            · skip
              have hk2 : idx + (j : Int) + 1 = idx + 1 + ((j : Nat) : Int) := by omega
              have hkne : (idx + 1 + ((j : Nat) : Int)) ≠ i := by omega
              have hstop : stopB i t (ts es) (idx + (j : Int) + 1) z.term = true := by
                unfold stopB; rw [hk2, termT_atX hkne, ← hx21, decide_eq_true (by omega)]; have q := beq_eq_false_iff_ne.1 hb; simp [q]
              refine CW.regionD [0, 1, 2, 3, 4, 5, 6, 7, 8, 9, 10, 11] (fun w => w.cell? ⟨b22, 0, none⟩ = some (.int .i64 x21.term) ∧ w.cell? ⟨b0, o0 + j * 4, none⟩ = some (.int .i64 z.term)) mixed ?_
              have hst := hst.drew
              generalize w.drew = w at hst ⊢
              have hS : w.cell? ⟨b22, 0, none⟩ = some (.int .i64 x21.term) ∧ w.cell? ⟨b0, o0 + j * 4, none⟩ = some (.int .i64 z.term) := ⟨hst.cell .here rfl, (hcell0 p.le_refl (hst.take (.there (.there .here))) _ _ (flat_get Ent.enc_len hz (j := 0) rfl))⟩
              refine RD.take 0 rfl (by kernel_rfl) Wd.a (v := .int .i64 (atE i es (idx + 1 + ((j : Nat) : Int)))) (fun w hS => by exact E.move (AF_ev rfl hs17)) hS ?_
              refine RD.take 1 rfl (by kernel_rfl) Wd.a (v := .bool true) (fun w hS => by exact E.b (a := (atE i es (idx + 1 + ((j : Nat) : Int))) == 0) (E.eql (k := .i64) (a := atE i es (idx + 1 + ((j : Nat) : Int))) (b := 0) (AF_ev rfl tp) rfl) ha) hS ?_
              refine RD.take 2 rfl (by kernel_rfl) Wd.a (v := .bool true) (fun w hS => by exact E.move (AF_ev rfl tp)) hS ?_
              refine RD.take 3 rfl (by kernel_rfl) (by exact Wd.yes (x := 91) rfl (AF_ev rfl tp)) (v := .pointer (some ⟨b22, 0, none⟩)) (fun w hS => by exact E.fieldAddr (b := b22) (o := 0) (f := { name := "Term", type := 3, offset := 0, embedded := false, tag := "", pkgPath := "", byteOffset := 0 }) (AF_ev rfl (up rfl (up rfl (up rfl hs16)))) Try.underlying58 rfl sz3 rfl) hS ?_
              refine RD.take 4 rfl (by kernel_rfl) (by exact Wd.yes (x := 91) rfl (AF_ev rfl (up rfl tp))) (v := .int .i64 x21.term) (fun w hS => by exact E.load (a := ⟨b22, 0, none⟩) Try.underlying3 rfl (AF_ev rfl tp) hS.1) hS ?_
              refine RD.take 5 rfl (by kernel_rfl) (by exact Wd.yes (x := 91) rfl (AF_ev rfl (up rfl (up rfl tp)))) (v := .slice (some ⟨b0, o0, none⟩) l.length cl) (fun w hS => by exact E.move (AF_ev rfl (up rfl (up rfl (up rfl (up rfl (up rfl hs3))))))) hS ?_
              refine RD.take 6 rfl (by kernel_rfl) (by exact Wd.yes (x := 91) rfl (AF_ev rfl (up rfl (up rfl (up rfl tp))))) (v := .int .i64 ((j : Nat) : Int)) (fun w hS => by exact E.move (AF_ev rfl (up rfl (up rfl (up rfl (up rfl (up rfl (up rfl hs14)))))))) hS ?_
              refine RD.take 7 rfl (by kernel_rfl) (by exact Wd.yes (x := 91) rfl (AF_ev rfl (up rfl (up rfl (up rfl (up rfl tp)))))) (v := .pointer (some ⟨b0, o0 + j * 4, none⟩)) (fun w hS => by exact E.indexAddr (b := b0) (o := o0) (l := l.length) (c := cl) (i := ((j : Nat) : Int)) Try.underlying44 sz58 (AF_ev rfl (up rfl tp)) (AF_ev rfl tp) (by omega) (by omega) (by simp)) hS ?_
              refine RD.take 8 rfl (by kernel_rfl) (by exact Wd.yes (x := 91) rfl (AF_ev rfl (up rfl (up rfl (up rfl (up rfl (up rfl tp))))))) (v := .pointer (some ⟨b0, o0 + j * 4, none⟩)) (fun w hS => by exact E.fieldAddr (b := b0) (o := o0 + j * 4) (f := { name := "Term", type := 3, offset := 0, embedded := false, tag := "", pkgPath := "", byteOffset := 0 }) (AF_ev rfl tp) Try.underlying58 rfl sz3 rfl) hS ?_
              refine RD.take 9 rfl (by kernel_rfl) (by exact Wd.yes (x := 91) rfl (AF_ev rfl (up rfl (up rfl (up rfl (up rfl (up rfl (up rfl tp)))))))) (v := .int .i64 z.term) (fun w hS => by exact E.load (a := ⟨b0, o0 + j * 4, none⟩) Try.underlying3 rfl (AF_ev rfl tp) hS.2) hS ?_
              refine RD.take 10 rfl (by kernel_rfl) (by exact Wd.yes (x := 91) rfl (AF_ev rfl (up rfl (up rfl (up rfl (up rfl (up rfl (up rfl (up rfl tp))))))))) (v := .bool false) (fun w hS => by exact E.b (a := x21.term == z.term) (E.eql (k := .i64) (a := x21.term) (b := z.term) (AF_ev rfl (up rfl (up rfl (up rfl (up rfl (up rfl tp)))))) (AF_ev rfl tp)) hb) hS ?_
              refine RD.take 11 rfl (by kernel_rfl) Wd.a (v := .bool false) (fun w hS => by exact E.pickT (AF_ev rfl (up rfl (up rfl (up rfl (up rfl (up rfl (up rfl (up rfl (up rfl tp))))))))) (AF_ev rfl tp)) hS ?_
              refine RD.fin (by kernel_rfl) (fun τ => τ 0 = .pointer (some ⟨b, 0, none⟩) ∧ τ 1 = .int .i64 idx ∧ τ 3 = .slice (some ⟨b0, o0, none⟩) l.length cl ∧ τ 14 = .int .i64 ((j : Nat) : Int) ∧ τ 15 = .int .i64 (idx + 1 + ((j : Nat) : Int)) ∧ τ 16 = .pointer (some ⟨b22, 0, none⟩) ∧ τ 17 = .int .i64 (atE i es (idx + 1 + ((j : Nat) : Int))) ∧ τ 70 = .bool true ∧ τ 82 = .bool false ∧ τ 100 = .bool false) ⟨up rfl (up rfl (up rfl (up rfl (up rfl (up rfl (up rfl (up rfl (up rfl (up rfl (up rfl (up rfl hs0))))))))))), up rfl (up rfl (up rfl (up rfl (up rfl (up rfl (up rfl (up rfl (up rfl (up rfl (up rfl (up rfl hs1))))))))))), up rfl (up rfl (up rfl (up rfl (up rfl (up rfl (up rfl (up rfl (up rfl (up rfl (up rfl (up rfl hs3))))))))))), up rfl (up rfl (up rfl (up rfl (up rfl (up rfl (up rfl (up rfl (up rfl (up rfl (up rfl (up rfl hs14))))))))))), up rfl (up rfl (up rfl (up rfl (up rfl (up rfl (up rfl (up rfl (up rfl (up rfl (up rfl (up rfl hs15))))))))))), up rfl (up rfl (up rfl (up rfl (up rfl (up rfl (up rfl (up rfl (up rfl (up rfl (up rfl (up rfl hs16))))))))))), up rfl (up rfl (up rfl (up rfl (up rfl (up rfl (up rfl (up rfl (up rfl (up rfl (up rfl (up rfl hs17))))))))))), up rfl (up rfl (up rfl (up rfl (up rfl (up rfl (up rfl (up rfl (up rfl (up rfl (up rfl (up rfl hs70))))))))))), up rfl (up rfl (up rfl (up rfl (up rfl (up rfl (up rfl (up rfl (up rfl (up rfl (up rfl (up rfl hs82))))))))))), tp⟩ ?_
              rintro τ ⟨hs0, hs1, hs3, hs14, hs15, hs16, hs17, hs70, hs82, hs100⟩
              refine CW.condF (AF_ev rfl hs100) ?_
              refine CW.skip ?_
              refine Th.n ?_
              refine CW.seq ?_
              have hst := hst.take (.there .here)
              obtain ⟨X, c, hi, hn, hE, hcc, hX, hst⟩ := refOpen hst
              have hr : findJ i t (ts es) idx (ts l) 0 = (j : Int) := by rw [hf, drop_ts hz]; unfold findJ; rw [if_pos hstop]
              have hsp := findJ_spec (i := i) (t := t) (idx := idx) (T := ts es) (ts l) 0 (by omega) (by omega) (by omega)
              rw [hr] at hsp
              have hnc := St_nilcap (hst.take (.there .here))
              obtain ⟨off, hoff⟩ : ∃ z, z = if j = cl then o0 else o0 + j * 4 := ⟨_, rfl⟩
              have hlj : (es.take (idx + 1 + ((j : Nat) : Int) - i - 1).toNat).length = (idx + 1 + ((j : Nat) : Int) - i - 1).toNat := by rw [List.length_take]; omega
              have hdj : (l.drop j).length = l.length - j := List.length_drop
              refine CW.regionD [0, 2, 3, 4, 5, 6, 7, 8, 9, 10, 11, 12, 13, 15, 16, 17] (fun w => w.cell? ⟨b, 2, none⟩ = some (.slice X es.length c) ∧ w.cell? ⟨b, 0, none⟩ = some (.int .i64 i)) mixed ?_
              have hst := hst.drew
              generalize w.drew = w at hst ⊢
              have hS : w.cell? ⟨b, 2, none⟩ = some (.slice X es.length c) ∧ w.cell? ⟨b, 0, none⟩ = some (.int .i64 i) := ⟨hst.cell .here rfl, hst.cell .here rfl⟩
              refine RD.take 0 rfl (by kernel_rfl) Wd.a (v := .pointer (some ⟨b, 0, none⟩)) (fun w hS => by exact E.move (AF_ev rfl hs0)) hS ?_
              refine RD.take 2 rfl (by kernel_rfl) Wd.a (v := .pointer (some ⟨b, 0, none⟩)) (fun w hS => by exact E.move (AF_ev rfl (up rfl hs0))) hS ?_
              refine RD.take 3 rfl (by kernel_rfl) Wd.a (v := .pointer (some ⟨b, 0, none⟩)) (fun w hS => by exact E.nilCheck (a := ⟨b, 0, none⟩) (AF_ev rfl tp)) hS ?_
              refine RD.take 4 rfl (by kernel_rfl) Wd.a (v := .pointer (some ⟨b, 2, none⟩)) (fun w hS => by exact E.fieldAddr (b := b) (o := 0) (f := { name := "L", type := 44, offset := 2, embedded := false, tag := "", pkgPath := "", byteOffset := 16 }) (AF_ev rfl tp) Try.underlying106 rfl sz44 rfl) hS ?_
              refine RD.take 5 rfl (by kernel_rfl) Wd.a (v := .slice X es.length c) (fun w hS => by exact E.load (a := ⟨b, 2, none⟩) Try.underlying44 rfl (AF_ev rfl tp) hS.1) hS ?_
              refine RD.take 6 rfl (by kernel_rfl) Wd.a (v := .int .i64 (idx + 1 + ((j : Nat) : Int))) (fun w hS => by exact E.move (AF_ev rfl (up rfl (up rfl (up rfl (up rfl (up rfl hs15))))))) hS ?_
              refine RD.take 7 rfl (by kernel_rfl) Wd.a (v := .pointer (some ⟨b, 0, none⟩)) (fun w hS => by exact E.move (AF_ev rfl (up rfl (up rfl (up rfl (up rfl (up rfl (up rfl hs0)))))))) hS ?_
              refine RD.take 8 rfl (by kernel_rfl) Wd.a (v := .pointer (some ⟨b, 0, none⟩)) (fun w hS => by exact E.nilCheck (a := ⟨b, 0, none⟩) (AF_ev rfl tp)) hS ?_
              refine RD.take 9 rfl (by kernel_rfl) Wd.a (v := .pointer (some ⟨b, 0, none⟩)) (fun w hS => by exact E.fieldAddr (b := b) (o := 0) (f := { name := "Index", type := 3, offset := 0, embedded := false, tag := "", pkgPath := "", byteOffset := 0 }) (AF_ev rfl tp) Try.underlying106 rfl sz3 rfl) hS ?_
              refine RD.take 10 rfl (by kernel_rfl) Wd.a (v := .int .i64 i) (fun w hS => by exact E.load (a := ⟨b, 0, none⟩) Try.underlying3 rfl (AF_ev rfl tp) hS.2) hS ?_
              refine RD.take 11 rfl (by kernel_rfl) Wd.a (v := .int .i64 (idx + 1 + ((j : Nat) : Int) - i)) (fun w hS => by exact E.sub (k := .i64) (a := idx + 1 + ((j : Nat) : Int)) (b := i) (AF_ev rfl (up rfl (up rfl (up rfl (up rfl tp))))) (AF_ev rfl tp) (show IntKind.i64.wrap ((idx + 1 + ((j : Nat) : Int)) - i) = idx + 1 + ((j : Nat) : Int) - i from (by rw [IntWalk.i64_in _ (by omega)] <;> omega))) hS ?_
              refine RD.take 12 rfl (by kernel_rfl) Wd.a (v := .int .i64 (idx + 1 + ((j : Nat) : Int) - i - 1)) (fun w hS => by exact E.sub (k := .i64) (a := idx + 1 + ((j : Nat) : Int) - i) (b := 1) (AF_ev rfl tp) rfl (show IntKind.i64.wrap ((idx + 1 + ((j : Nat) : Int) - i) - 1) = idx + 1 + ((j : Nat) : Int) - i - 1 from (by rw [IntWalk.i64_in _ (by omega)] <;> omega))) hS ?_
              refine RD.take 13 rfl (by kernel_rfl) Wd.a (v := .slice X ((es.take (idx + 1 + ((j : Nat) : Int) - i - 1).toNat).length) c) (fun w hS => by exact E_sliceTo (X := X) (l := es.length) (c := c) (j := (es.take (idx + 1 + ((j : Nat) : Int) - i - 1).toNat).length) Try.underlying44 sz58 (AF_ev rfl (up rfl (up rfl (up rfl (up rfl (up rfl (up rfl (up rfl tp)))))))) (int_eq (a := idx + 1 + ((j : Nat) : Int) - i - 1) (AF_ev rfl tp) (by omega)) (by omega) hnc) hS ?_
              refine RD.take 15 rfl (by kernel_rfl) Wd.a (v := .slice (some ⟨b0, o0, none⟩) l.length cl) (fun w hS => by exact E.move (AF_ev rfl (up rfl (up rfl (up rfl (up rfl (up rfl (up rfl (up rfl (up rfl (up rfl (up rfl (up rfl (up rfl (up rfl hs3))))))))))))))) hS ?_
              refine RD.take 16 rfl (by kernel_rfl) Wd.a (v := .int .i64 ((j : Nat) : Int)) (fun w hS => by exact E.move (AF_ev rfl (up rfl (up rfl (up rfl (up rfl (up rfl (up rfl (up rfl (up rfl (up rfl (up rfl (up rfl (up rfl (up rfl (up rfl hs14)))))))))))))))) hS ?_
              refine RD.take 17 rfl (by kernel_rfl) Wd.a (v := .slice (some ⟨b0, off, none⟩) ((l.drop j).length) (cl - j)) (fun w hS => by exact E.slice (i := j) (j := l.length) Try.underlying44 sz58 (AF_ev rfl (up rfl tp)) (AF_ev rfl tp) rfl (by omega) (by omega) (by rw [hoff, List.length_drop])) hS ?_
              refine RD.only 1 rfl (by kernel_rfl) Wd.a ?_
              refine H.buildSlice (e := 58) (cs := #[]) (vs := #[]) (by simp) (fun _ => by kernel_rfl) hst fun b23 w hst => ?_
              have hS : w.cell? ⟨b, 2, none⟩ = some (.slice X es.length c) ∧ w.cell? ⟨b, 0, none⟩ = some (.int .i64 i) := ⟨hst.cell (.there .here) rfl, hst.cell (.there .here) rfl⟩
              refine ⟨fun _ => hS, ?_⟩
              refine RD.only 14 rfl (by kernel_rfl) Wd.a ?_
              have hst := hst.ownNew (n := 0) (cap := 0) (sz := 4) (xs := []) (by omega) (by simp [maxLen]) rfl rfl
              refine H.append2 (n2 := (es.take (idx + 1 + ((j : Nat) : Int) - i - 1).toNat).length) (xs2 := flat (es.take (idx + 1 + ((j : Nat) : Int) - i - 1).toNat)) (by first | rfl | simp) (by first | rfl | simp) (m := (es.take (idx + 1 + ((j : Nat) : Int) - i - 1).toNat).length) (news := flat (es.take (idx + 1 + ((j : Nat) : Int) - i - 1).toNat)) (s0 := .slice (some ⟨b23, 0, none⟩) 0 0) (x0 := .slice X ((es.take (idx + 1 + ((j : Nat) : Int) - i - 1).toNat).length) c) Try.underlying44 inf58 rfl (AF_ev rfl tp) (AF_ev rfl (up rfl (up rfl (up rfl (up rfl tp))))) hst .here (by have q := (Own.src (hst.take (.there (.there .here)))).take (k := (idx + 1 + ((j : Nat) : Int) - i - 1).toNat) (by omega); rw [flat_take] at q; rw [hlj]; exact q) (flat_one _) (by omega) (by simp only [maxLen]; omega) ?_
              intro vX24 w hnilX24 hst
              obtain ⟨X24, c25, rfl, hcX24, hmX24, hlX24, hbX24⟩ := hst.shape
              have hS : w.cell? ⟨b, 2, none⟩ = some (.slice X es.length c) ∧ w.cell? ⟨b, 0, none⟩ = some (.int .i64 i) := ⟨hst.cell (.there .here) rfl, hst.cell (.there .here) rfl⟩
              refine ⟨fun _ => hS, ?_⟩
              refine RD.only 18 rfl (by kernel_rfl) Wd.a ?_
              refine H.append2 (n2 := (es.take (idx + 1 + ((j : Nat) : Int) - i - 1).toNat).length + ((l.drop j).length)) (xs2 := (flat (es.take (idx + 1 + ((j : Nat) : Int) - i - 1).toNat)) ++ (flat (l.drop j))) (by first | rfl | simp) (by first | rfl | simp) (m := (l.drop j).length) (news := flat (l.drop j)) (s0 := .slice X24 ((es.take (idx + 1 + ((j : Nat) : Int) - i - 1).toNat).length) c25) (x0 := .slice (some ⟨b0, off, none⟩) ((l.drop j).length) (cl - j)) Try.underlying44 inf58 rfl (AF_ev rfl tp) (AF_ev rfl (up rfl (up rfl tp))) hst .here (by have q := (hA.src (hst.take (.there (.there (.there (.there .here)))))).lower (k := j) (by omega); rw [flat_drop, ← hoff, ← List.length_drop] at q; exact q) (flat_one _) (by omega) (by simp only [maxLen]; omega) ?_
              intro vX26 w hnilX26 hst
              obtain ⟨X26, c27, rfl, hcX26, hmX26, hlX26, hbX26⟩ := hst.shape
              have hS : w.cell? ⟨b, 2, none⟩ = some (.slice X es.length c) ∧ w.cell? ⟨b, 0, none⟩ = some (.int .i64 i) := ⟨hst.cell (.there .here) rfl, hst.cell (.there .here) rfl⟩
              refine ⟨fun _ => hS, ?_⟩
              refine RD.only 19 rfl (by kernel_rfl) Wd.a (Hd.value (v := .pointer (some ⟨b, 0, none⟩)) (by exact E.nilCheck (a := ⟨b, 0, none⟩) (AF_ev rfl (up rfl (up rfl (up rfl (up rfl (up rfl (up rfl (up rfl (up rfl (up rfl (up rfl (up rfl (up rfl (up rfl (up rfl (up rfl (up rfl (up rfl (up rfl tp)))))))))))))))))))) ⟨fun h => Bool.noConfusion ((show needs _ _ _ = false by kernel_rfl).symm.trans h), ?_⟩)
              refine RD.only 20 rfl (by kernel_rfl) Wd.a (Hd.value (v := .pointer (some ⟨b, 2, none⟩)) (by exact E.fieldAddr (b := b) (o := 0) (f := { name := "L", type := 44, offset := 2, embedded := false, tag := "", pkgPath := "", byteOffset := 16 }) (AF_ev rfl tp) Try.underlying106 rfl sz44 rfl) ⟨fun h => Bool.noConfusion ((show needs _ _ _ = false by kernel_rfl).symm.trans h), ?_⟩)
              refine RD.only 21 rfl (by kernel_rfl) Wd.a ?_
              refine H.store (b := b) (o := 2) (v := .slice X26 ((es.take (idx + 1 + ((j : Nat) : Int) - i - 1).toNat).length + ((l.drop j).length)) c27) (c' := #[.int .i64 i, .int .i64 t, .slice X26 ((es.take (idx + 1 + ((j : Nat) : Int) - i - 1).toNat).length + ((l.drop j).length)) c27]) (AF_ev rfl tp) (AF_ev rfl (up rfl (up rfl tp))) hst (.there .here) sz44 (by simp [Value.cells]) (by simp [Value.cells, Value.oneCell']) rfl fun w hst => ?_
              refine ⟨fun h => Bool.noConfusion ((show needs _ _ _ = false by kernel_rfl).symm.trans h), ?_⟩
              refine RD.fin (by kernel_rfl) (fun τ => τ 0 = .pointer (some ⟨b, 0, none⟩) ∧ τ 1 = .int .i64 idx ∧ τ 3 = .slice (some ⟨b0, o0, none⟩) l.length cl ∧ τ 14 = .int .i64 ((j : Nat) : Int) ∧ τ 15 = .int .i64 (idx + 1 + ((j : Nat) : Int)) ∧ τ 16 = .pointer (some ⟨b22, 0, none⟩) ∧ τ 17 = .int .i64 (atE i es (idx + 1 + ((j : Nat) : Int))) ∧ τ 70 = .bool true ∧ τ 82 = .bool false ∧ τ 100 = .bool false) ⟨u0 (up rfl (up rfl (up rfl (up rfl (up rfl (up rfl (up rfl (up rfl (up rfl (up rfl (up rfl (up rfl (up rfl (up rfl (up rfl (up rfl (up rfl (up rfl (up rfl (up rfl (up rfl hs0))))))))))))))))))))), u0 (up rfl (up rfl (up rfl (up rfl (up rfl (up rfl (up rfl (up rfl (up rfl (up rfl (up rfl (up rfl (up rfl (up rfl (up rfl (up rfl (up rfl (up rfl (up rfl (up rfl (up rfl hs1))))))))))))))))))))), u0 (up rfl (up rfl (up rfl (up rfl (up rfl (up rfl (up rfl (up rfl (up rfl (up rfl (up rfl (up rfl (up rfl (up rfl (up rfl (up rfl (up rfl (up rfl (up rfl (up rfl (up rfl hs3))))))))))))))))))))), u0 (up rfl (up rfl (up rfl (up rfl (up rfl (up rfl (up rfl (up rfl (up rfl (up rfl (up rfl (up rfl (up rfl (up rfl (up rfl (up rfl (up rfl (up rfl (up rfl (up rfl (up rfl hs14))))))))))))))))))))), u0 (up rfl (up rfl (up rfl (up rfl (up rfl (up rfl (up rfl (up rfl (up rfl (up rfl (up rfl (up rfl (up rfl (up rfl (up rfl (up rfl (up rfl (up rfl (up rfl (up rfl (up rfl hs15))))))))))))))))))))), u0 (up rfl (up rfl (up rfl (up rfl (up rfl (up rfl (up rfl (up rfl (up rfl (up rfl (up rfl (up rfl (up rfl (up rfl (up rfl (up rfl (up rfl (up rfl (up rfl (up rfl (up rfl hs16))))))))))))))))))))), u0 (up rfl (up rfl (up rfl (up rfl (up rfl (up rfl (up rfl (up rfl (up rfl (up rfl (up rfl (up rfl (up rfl (up rfl (up rfl (up rfl (up rfl (up rfl (up rfl (up rfl (up rfl hs17))))))))))))))))))))), u0 (up rfl (up rfl (up rfl (up rfl (up rfl (up rfl (up rfl (up rfl (up rfl (up rfl (up rfl (up rfl (up rfl (up rfl (up rfl (up rfl (up rfl (up rfl (up rfl (up rfl (up rfl hs70))))))))))))))))))))), u0 (up rfl (up rfl (up rfl (up rfl (up rfl (up rfl (up rfl (up rfl (up rfl (up rfl (up rfl (up rfl (up rfl (up rfl (up rfl (up rfl (up rfl (up rfl (up rfl (up rfl (up rfl hs82))))))))))))))))))))), u0 (up rfl (up rfl (up rfl (up rfl (up rfl (up rfl (up rfl (up rfl (up rfl (up rfl (up rfl (up rfl (up rfl (up rfl (up rfl (up rfl (up rfl (up rfl (up rfl (up rfl (up rfl hs100)))))))))))))))))))))⟩ ?_
              rintro τ ⟨hs0, hs1, hs3, hs14, hs15, hs16, hs17, hs70, hs82, hs100⟩
              refine CW.seq ?_
              refine CW.region ?_
              refine RW.soft Wd.a (v := .int .i64 idx) (by exact E.move (AF_ev rfl hs1)) ?_
              refine RW.soft Wd.a (v := .slice (some ⟨b0, o0, none⟩) l.length cl) (by exact E.move (AF_ev rfl (up rfl hs3))) ?_
              refine RW.soft Wd.a (v := .int .i64 ((l.length : Nat) : Int)) (by exact E.lenS (p := (some ⟨b0, o0, none⟩)) (l := l.length) (c := cl) Try.underlying44 (AF_ev rfl tp)) ?_
              refine RW.soft Wd.a (v := .int .i64 (idx + ((l.length : Nat) : Int))) (by exact E.add (k := .i64) (a := idx) (b := ((l.length : Nat) : Int)) (AF_ev rfl (up rfl (up rfl tp))) (AF_ev rfl tp) (show IntKind.i64.wrap (idx + ((l.length : Nat) : Int)) = idx + ((l.length : Nat) : Int) from (by rw [IntWalk.i64_in _ (by omega)]))) ?_
              refine RW.soft Wd.a (v := .int .i64 (idx + 1 + ((j : Nat) : Int))) (by exact E.move (AF_ev rfl (up rfl (up rfl (up rfl (up rfl hs15)))))) ?_
              refine RW.soft Wd.a (v := .int .i64 (idx + ((l.length : Nat) : Int))) (by exact E.assign (AF_ev rfl (up rfl tp))) ?_
              refine RW.soft Wd.a (v := .int .i64 (idx + 1 + ((j : Nat) : Int))) (by exact E.assign (AF_ev rfl (up rfl tp))) ?_
              refine RW.soft Wd.a (v := .bool true) (by exact E.assign rfl) ?_
              refine RW.fin (fun τ => τ 0 = .pointer (some ⟨b, 0, none⟩) ∧ τ 1 = .int .i64 idx ∧ τ 3 = .slice (some ⟨b0, o0, none⟩) l.length cl ∧ τ 8 = .int .i64 (idx + ((l.length : Nat) : Int)) ∧ τ 9 = .int .i64 (idx + 1 + ((j : Nat) : Int)) ∧ τ 10 = .bool true ∧ τ 14 = .int .i64 ((j : Nat) : Int) ∧ τ 15 = .int .i64 (idx + 1 + ((j : Nat) : Int)) ∧ τ 16 = .pointer (some ⟨b22, 0, none⟩) ∧ τ 17 = .int .i64 (atE i es (idx + 1 + ((j : Nat) : Int))) ∧ τ 70 = .bool true ∧ τ 82 = .bool false ∧ τ 100 = .bool false) ⟨up rfl (up rfl (up rfl (up rfl (up rfl (up rfl (up rfl (up rfl hs0))))))), up rfl (up rfl (up rfl (up rfl (up rfl (up rfl (up rfl (up rfl hs1))))))), up rfl (up rfl (up rfl (up rfl (up rfl (up rfl (up rfl (up rfl hs3))))))), up rfl (up rfl tp), up rfl tp, tp, up rfl (up rfl (up rfl (up rfl (up rfl (up rfl (up rfl (up rfl hs14))))))), up rfl (up rfl (up rfl (up rfl (up rfl (up rfl (up rfl (up rfl hs15))))))), up rfl (up rfl (up rfl (up rfl (up rfl (up rfl (up rfl (up rfl hs16))))))), up rfl (up rfl (up rfl (up rfl (up rfl (up rfl (up rfl (up rfl hs17))))))), up rfl (up rfl (up rfl (up rfl (up rfl (up rfl (up rfl (up rfl hs70))))))), up rfl (up rfl (up rfl (up rfl (up rfl (up rfl (up rfl (up rfl hs82))))))), up rfl (up rfl (up rfl (up rfl (up rfl (up rfl (up rfl (up rfl hs100)))))))⟩ ?_
              rintro τ ⟨hs0, hs1, hs3, hs8, hs9, hs10, hs14, hs15, hs16, hs17, hs70, hs82, hs100⟩
              refine CW.ret ?_
              refine Bl.r ?_
              refine Th.r ?_
              refine Th.r ?_
              refine Bl.r ?_
              refine Th.r ?_
              refine retN (rs := [.tmp 8, .tmp 9, .tmp 10]) (vs := [.int .i64 (idx + ((l.length : Nat) : Int)), .int .i64 (idx + 1 + ((j : Nat) : Int)), .bool true]) rfl (by exact (.tmp (AF_ev rfl hs8) (.tmp (AF_ev rfl hs9) (.tmp (AF_ev rfl hs10) .nil)))) (by simp) ?_
              have hst := hst.take (.there (.there (.there (.there .here))))
              have hst := hst.take (.there .here)
              have hst := hst.take (.there (.there .here))
              have hst := (hst.take (.there (.there (.there .here)))).drop
              have hst := (hst.take (.there (.there (.there .here)))).drop
              have hnr : ¬ findJ i t (ts es) idx (ts l) 0 < 0 := by omega
              have hlN : (es.take (idx + 1 + ((j : Nat) : Int) - i - 1).toNat ++ l.drop j).length = (es.take (idx + 1 + ((j : Nat) : Int) - i - 1).toNat).length + (l.drop j).length := List.length_append
              have hst : St p w (pt b (.cells #[.int .i64 i, .int .i64 t, .slice X26 (es.take (idx + 1 + ((j : Nat) : Int) - i - 1).toNat ++ l.drop j).length c27] 106) :: Own 58 4 (.slice X26 (es.take (idx + 1 + ((j : Nat) : Int) - i - 1).toNat ++ l.drop j).length c27) (es.take (idx + 1 + ((j : Nat) : Int) - i - 1).toNat ++ l.drop j).length (flat (es.take (idx + 1 + ((j : Nat) : Int) - i - 1).toNat ++ l.drop j)) :: A :: R) := by rw [hlN, flat_append]; exact hst
              have hJL : joinL i t (ts es) idx tm (ts l) es l = (es.take (idx + 1 + ((j : Nat) : Int) - i - 1).toNat ++ l.drop j) := by
                unfold joinL; rw [if_neg hnl, if_neg hcl, if_neg hnr, hr]
                rw [show (idx + (j : Int) + 1 - (i + 1)).toNat = (idx + 1 + ((j : Nat) : Int) - i - 1).toNat by omega, Int.toNat_natCast]
              refine ⟨?_, ?_⟩
              · unfold joinA joinF joinO; rw [if_neg hnl, if_neg hnl, if_neg hnl, if_neg hcl, if_neg hcl, if_neg hcl, if_neg hnr, ts_len, hr, show idx + (j : Int) + 1 = idx + 1 + (j : Int) by omega]
              · rw [hJL]; exact refClose hi (by omega) ((hE.take _).append (hEL.drop _)) hst
          · skip
            have hk2 : idx + (j : Int) + 1 = idx + 1 + ((j : Nat) : Int) := by omega
            have hkne : (idx + 1 + ((j : Nat) : Int)) ≠ i := by omega
            have hstop : stopB i t (ts es) (idx + (j : Int) + 1) z.term = true := by
              unfold stopB; rw [hk2, termE_atE hkne, decide_eq_true (by omega)]; have q := beq_eq_false_iff_ne.1 ha; simp [q]
            refine CW.regionD [0, 1, 2, 3, 4, 5, 6, 7, 8, 9, 10, 11] (fun w => True) mixed ?_
            have hst := hst.drew
            generalize w.drew = w at hst ⊢
            have hS : True := trivial
            refine RD.take 0 rfl (by kernel_rfl) Wd.a (v := .int .i64 (atE i es (idx + 1 + ((j : Nat) : Int)))) (fun w hS => by exact E.move (AF_ev rfl hs17)) hS ?_
            refine RD.take 1 rfl (by kernel_rfl) Wd.a (v := .bool false) (fun w hS => by exact E.b (a := (atE i es (idx + 1 + ((j : Nat) : Int))) == 0) (E.eql (k := .i64) (a := atE i es (idx + 1 + ((j : Nat) : Int))) (b := 0) (AF_ev rfl tp) rfl) ha) hS ?_
            refine RD.take 2 rfl (by kernel_rfl) Wd.a (v := .bool false) (fun w hS => by exact E.move (AF_ev rfl tp)) hS ?_
            refine RD.pass 3 rfl (by kernel_rfl) (by exact Wd.no (x := 91) (b := false) rfl (AF_ev rfl tp) rfl) hS ?_
            refine RD.pass 4 rfl (by kernel_rfl) (by exact Wd.no (x := 91) (b := false) rfl (AF_ev rfl (up rfl tp)) rfl) hS ?_
            refine RD.pass 5 rfl (by kernel_rfl) (by exact Wd.no (x := 91) (b := false) rfl (AF_ev rfl (up rfl (up rfl tp))) rfl) hS ?_
            refine RD.pass 6 rfl (by kernel_rfl) (by exact Wd.no (x := 91) (b := false) rfl (AF_ev rfl (up rfl (up rfl (up rfl tp)))) rfl) hS ?_
            refine RD.pass 7 rfl (by kernel_rfl) (by exact Wd.no (x := 91) (b := false) rfl (AF_ev rfl (up rfl (up rfl (up rfl (up rfl tp))))) rfl) hS ?_
            refine RD.pass 8 rfl (by kernel_rfl) (by exact Wd.no (x := 91) (b := false) rfl (AF_ev rfl (up rfl (up rfl (up rfl (up rfl (up rfl tp)))))) rfl) hS ?_
            refine RD.pass 9 rfl (by kernel_rfl) (by exact Wd.no (x := 91) (b := false) rfl (AF_ev rfl (up rfl (up rfl (up rfl (up rfl (up rfl (up rfl tp))))))) rfl) hS ?_
            refine RD.pass 10 rfl (by kernel_rfl) (by exact Wd.no (x := 91) (b := false) rfl (AF_ev rfl (up rfl (up rfl (up rfl (up rfl (up rfl (up rfl (up rfl tp)))))))) rfl) hS ?_
            refine RD.take 11 rfl (by kernel_rfl) Wd.a (v := .bool false) (fun w hS => by exact E.pickF (AF_ev rfl (up rfl (up rfl (up rfl (up rfl (up rfl (up rfl (up rfl (up rfl tp))))))))) rfl) hS ?_
            refine RD.fin (by kernel_rfl) (fun τ => τ 0 = .pointer (some ⟨b, 0, none⟩) ∧ τ 1 = .int .i64 idx ∧ τ 3 = .slice (some ⟨b0, o0, none⟩) l.length cl ∧ τ 14 = .int .i64 ((j : Nat) : Int) ∧ τ 15 = .int .i64 (idx + 1 + ((j : Nat) : Int)) ∧ τ 16 = .pointer (some ⟨b22, 0, none⟩) ∧ τ 17 = .int .i64 (atE i es (idx + 1 + ((j : Nat) : Int))) ∧ τ 70 = .bool true ∧ τ 82 = .bool false ∧ τ 100 = .bool false) ⟨up rfl (up rfl (up rfl (up rfl (up rfl (up rfl (up rfl (up rfl (up rfl (up rfl (up rfl (up rfl hs0))))))))))), up rfl (up rfl (up rfl (up rfl (up rfl (up rfl (up rfl (up rfl (up rfl (up rfl (up rfl (up rfl hs1))))))))))), up rfl (up rfl (up rfl (up rfl (up rfl (up rfl (up rfl (up rfl (up rfl (up rfl (up rfl (up rfl hs3))))))))))), up rfl (up rfl (up rfl (up rfl (up rfl (up rfl (up rfl (up rfl (up rfl (up rfl (up rfl (up rfl hs14))))))))))), up rfl (up rfl (up rfl (up rfl (up rfl (up rfl (up rfl (up rfl (up rfl (up rfl (up rfl (up rfl hs15))))))))))), up rfl (up rfl (up rfl (up rfl (up rfl (up rfl (up rfl (up rfl (up rfl (up rfl (up rfl (up rfl hs16))))))))))), up rfl (up rfl (up rfl (up rfl (up rfl (up rfl (up rfl (up rfl (up rfl (up rfl (up rfl (up rfl hs17))))))))))), up rfl (up rfl (up rfl (up rfl (up rfl (up rfl (up rfl (up rfl (up rfl (up rfl (up rfl (up rfl hs70))))))))))), up rfl (up rfl (up rfl (up rfl (up rfl (up rfl (up rfl (up rfl (up rfl (up rfl (up rfl (up rfl hs82))))))))))), tp⟩ ?_
            rintro τ ⟨hs0, hs1, hs3, hs14, hs15, hs16, hs17, hs70, hs82, hs100⟩
            refine CW.condF (AF_ev rfl hs100) ?_
            refine CW.skip ?_
            refine Th.n ?_
            refine CW.seq ?_
            have hst := hst.take (.there .here)
            obtain ⟨X, c, hi, hn, hE, hcc, hX, hst⟩ := refOpen hst
            have hr : findJ i t (ts es) idx (ts l) 0 = (j : Int) := by rw [hf, drop_ts hz]; unfold findJ; rw [if_pos hstop]
            have hsp := findJ_spec (i := i) (t := t) (idx := idx) (T := ts es) (ts l) 0 (by omega) (by omega) (by omega)
            rw [hr] at hsp
            have hnc := St_nilcap (hst.take (.there .here))
            obtain ⟨off, hoff⟩ : ∃ z, z = if j = cl then o0 else o0 + j * 4 := ⟨_, rfl⟩
            have hlj : (es.take (idx + 1 + ((j : Nat) : Int) - i - 1).toNat).length = (idx + 1 + ((j : Nat) : Int) - i - 1).toNat := by rw [List.length_take]; omega
            have hdj : (l.drop j).length = l.length - j := List.length_drop
            refine CW.regionD [0, 2, 3, 4, 5, 6, 7, 8, 9, 10, 11, 12, 13, 15, 16, 17] (fun w => w.cell? ⟨b, 2, none⟩ = some (.slice X es.length c) ∧ w.cell? ⟨b, 0, none⟩ = some (.int .i64 i)) mixed ?_
            have hst := hst.drew
            generalize w.drew = w at hst ⊢
            have hS : w.cell? ⟨b, 2, none⟩ = some (.slice X es.length c) ∧ w.cell? ⟨b, 0, none⟩ = some (.int .i64 i) := ⟨hst.cell .here rfl, hst.cell .here rfl⟩
            refine RD.take 0 rfl (by kernel_rfl) Wd.a (v := .pointer (some ⟨b, 0, none⟩)) (fun w hS => by exact E.move (AF_ev rfl hs0)) hS ?_
            refine RD.take 2 rfl (by kernel_rfl) Wd.a (v := .pointer (some ⟨b, 0, none⟩)) (fun w hS => by exact E.move (AF_ev rfl (up rfl hs0))) hS ?_
            refine RD.take 3 rfl (by kernel_rfl) Wd.a (v := .pointer (some ⟨b, 0, none⟩)) (fun w hS => by exact E.nilCheck (a := ⟨b, 0, none⟩) (AF_ev rfl tp)) hS ?_
            refine RD.take 4 rfl (by kernel_rfl) Wd.a (v := .pointer (some ⟨b, 2, none⟩)) (fun w hS => by exact E.fieldAddr (b := b) (o := 0) (f := { name := "L", type := 44, offset := 2, embedded := false, tag := "", pkgPath := "", byteOffset := 16 }) (AF_ev rfl tp) Try.underlying106 rfl sz44 rfl) hS ?_
            refine RD.take 5 rfl (by kernel_rfl) Wd.a (v := .slice X es.length c) (fun w hS => by exact E.load (a := ⟨b, 2, none⟩) Try.underlying44 rfl (AF_ev rfl tp) hS.1) hS ?_
            refine RD.take 6 rfl (by kernel_rfl) Wd.a (v := .int .i64 (idx + 1 + ((j : Nat) : Int))) (fun w hS => by exact E.move (AF_ev rfl (up rfl (up rfl (up rfl (up rfl (up rfl hs15))))))) hS ?_
            refine RD.take 7 rfl (by kernel_rfl) Wd.a (v := .pointer (some ⟨b, 0, none⟩)) (fun w hS => by exact E.move (AF_ev rfl (up rfl (up rfl (up rfl (up rfl (up rfl (up rfl hs0)))))))) hS ?_
            refine RD.take 8 rfl (by kernel_rfl) Wd.a (v := .pointer (some ⟨b, 0, none⟩)) (fun w hS => by exact E.nilCheck (a := ⟨b, 0, none⟩) (AF_ev rfl tp)) hS ?_
            refine RD.take 9 rfl (by kernel_rfl) Wd.a (v := .pointer (some ⟨b, 0, none⟩)) (fun w hS => by exact E.fieldAddr (b := b) (o := 0) (f := { name := "Index", type := 3, offset := 0, embedded := false, tag := "", pkgPath := "", byteOffset := 0 }) (AF_ev rfl tp) Try.underlying106 rfl sz3 rfl) hS ?_
            refine RD.take 10 rfl (by kernel_rfl) Wd.a (v := .int .i64 i) (fun w hS => by exact E.load (a := ⟨b, 0, none⟩) Try.underlying3 rfl (AF_ev rfl tp) hS.2) hS ?_
            refine RD.take 11 rfl (by kernel_rfl) Wd.a (v := .int .i64 (idx + 1 + ((j : Nat) : Int) - i)) (fun w hS => by exact E.sub (k := .i64) (a := idx + 1 + ((j : Nat) : Int)) (b := i) (AF_ev rfl (up rfl (up rfl (up rfl (up rfl tp))))) (AF_ev rfl tp) (show IntKind.i64.wrap ((idx + 1 + ((j : Nat) : Int)) - i) = idx + 1 + ((j : Nat) : Int) - i from (by rw [IntWalk.i64_in _ (by omega)] <;> omega))) hS ?_
            refine RD.take 12 rfl (by kernel_rfl) Wd.a (v := .int .i64 (idx + 1 + ((j : Nat) : Int) - i - 1)) (fun w hS => by exact E.sub (k := .i64) (a := idx + 1 + ((j : Nat) : Int) - i) (b := 1) (AF_ev rfl tp) rfl (show IntKind.i64.wrap ((idx + 1 + ((j : Nat) : Int) - i) - 1) = idx + 1 + ((j : Nat) : Int) - i - 1 from (by rw [IntWalk.i64_in _ (by omega)] <;> omega))) hS ?_
            refine RD.take 13 rfl (by kernel_rfl) Wd.a (v := .slice X ((es.take (idx + 1 + ((j : Nat) : Int) - i - 1).toNat).length) c) (fun w hS => by exact E_sliceTo (X := X) (l := es.length) (c := c) (j := (es.take (idx + 1 + ((j : Nat) : Int) - i - 1).toNat).length) Try.underlying44 sz58 (AF_ev rfl (up rfl (up rfl (up rfl (up rfl (up rfl (up rfl (up rfl tp)))))))) (int_eq (a := idx + 1 + ((j : Nat) : Int) - i - 1) (AF_ev rfl tp) (by omega)) (by omega) hnc) hS ?_
            refine RD.take 15 rfl (by kernel_rfl) Wd.a (v := .slice (some ⟨b0, o0, none⟩) l.length cl) (fun w hS => by exact E.move (AF_ev rfl (up rfl (up rfl (up rfl (up rfl (up rfl (up rfl (up rfl (up rfl (up rfl (up rfl (up rfl (up rfl (up rfl hs3))))))))))))))) hS ?_
            refine RD.take 16 rfl (by kernel_rfl) Wd.a (v := .int .i64 ((j : Nat) : Int)) (fun w hS => by exact E.move (AF_ev rfl (up rfl (up rfl (up rfl (up rfl (up rfl (up rfl (up rfl (up rfl (up rfl (up rfl (up rfl (up rfl (up rfl (up rfl hs14)))))))))))))))) hS ?_
            refine RD.take 17 rfl (by kernel_rfl) Wd.a (v := .slice (some ⟨b0, off, none⟩) ((l.drop j).length) (cl - j)) (fun w hS => by exact E.slice (i := j) (j := l.length) Try.underlying44 sz58 (AF_ev rfl (up rfl tp)) (AF_ev rfl tp) rfl (by omega) (by omega) (by rw [hoff, List.length_drop])) hS ?_
            refine RD.only 1 rfl (by kernel_rfl) Wd.a ?_
            refine H.buildSlice (e := 58) (cs := #[]) (vs := #[]) (by simp) (fun _ => by kernel_rfl) hst fun b28 w hst => ?_
            have hS : w.cell? ⟨b, 2, none⟩ = some (.slice X es.length c) ∧ w.cell? ⟨b, 0, none⟩ = some (.int .i64 i) := ⟨hst.cell (.there .here) rfl, hst.cell (.there .here) rfl⟩
            refine ⟨fun _ => hS, ?_⟩
            refine RD.only 14 rfl (by kernel_rfl) Wd.a ?_
            have hst := hst.ownNew (n := 0) (cap := 0) (sz := 4) (xs := []) (by omega) (by simp [maxLen]) rfl rfl
            refine H.append2 (n2 := (es.take (idx + 1 + ((j : Nat) : Int) - i - 1).toNat).length) (xs2 := flat (es.take (idx + 1 + ((j : Nat) : Int) - i - 1).toNat)) (by first | rfl | simp) (by first | rfl | simp) (m := (es.take (idx + 1 + ((j : Nat) : Int) - i - 1).toNat).length) (news := flat (es.take (idx + 1 + ((j : Nat) : Int) - i - 1).toNat)) (s0 := .slice (some ⟨b28, 0, none⟩) 0 0) (x0 := .slice X ((es.take (idx + 1 + ((j : Nat) : Int) - i - 1).toNat).length) c) Try.underlying44 inf58 rfl (AF_ev rfl tp) (AF_ev rfl (up rfl (up rfl (up rfl (up rfl tp))))) hst .here (by have q := (Own.src (hst.take (.there (.there .here)))).take (k := (idx + 1 + ((j : Nat) : Int) - i - 1).toNat) (by omega); rw [flat_take] at q; rw [hlj]; exact q) (flat_one _) (by omega) (by simp only [maxLen]; omega) ?_
            intro vX29 w hnilX29 hst
            obtain ⟨X29, c30, rfl, hcX29, hmX29, hlX29, hbX29⟩ := hst.shape
            have hS : w.cell? ⟨b, 2, none⟩ = some (.slice X es.length c) ∧ w.cell? ⟨b, 0, none⟩ = some (.int .i64 i) := ⟨hst.cell (.there .here) rfl, hst.cell (.there .here) rfl⟩
            refine ⟨fun _ => hS, ?_⟩
            refine RD.only 18 rfl (by kernel_rfl) Wd.a ?_
            refine H.append2 (n2 := (es.take (idx + 1 + ((j : Nat) : Int) - i - 1).toNat).length + ((l.drop j).length)) (xs2 := (flat (es.take (idx + 1 + ((j : Nat) : Int) - i - 1).toNat)) ++ (flat (l.drop j))) (by first | rfl | simp) (by first | rfl | simp) (m := (l.drop j).length) (news := flat (l.drop j)) (s0 := .slice X29 ((es.take (idx + 1 + ((j : Nat) : Int) - i - 1).toNat).length) c30) (x0 := .slice (some ⟨b0, off, none⟩) ((l.drop j).length) (cl - j)) Try.underlying44 inf58 rfl (AF_ev rfl tp) (AF_ev rfl (up rfl (up rfl tp))) hst .here (by have q := (hA.src (hst.take (.there (.there (.there (.there .here)))))).lower (k := j) (by omega); rw [flat_drop, ← hoff, ← List.length_drop] at q; exact q) (flat_one _) (by omega) (by simp only [maxLen]; omega) ?_
            intro vX31 w hnilX31 hst
            obtain ⟨X31, c32, rfl, hcX31, hmX31, hlX31, hbX31⟩ := hst.shape
            have hS : w.cell? ⟨b, 2, none⟩ = some (.slice X es.length c) ∧ w.cell? ⟨b, 0, none⟩ = some (.int .i64 i) := ⟨hst.cell (.there .here) rfl, hst.cell (.there .here) rfl⟩
            refine ⟨fun _ => hS, ?_⟩
            refine RD.only 19 rfl (by kernel_rfl) Wd.a (Hd.value (v := .pointer (some ⟨b, 0, none⟩)) (by exact E.nilCheck (a := ⟨b, 0, none⟩) (AF_ev rfl (up rfl (up rfl (up rfl (up rfl (up rfl (up rfl (up rfl (up rfl (up rfl (up rfl (up rfl (up rfl (up rfl (up rfl (up rfl (up rfl (up rfl (up rfl tp)))))))))))))))))))) ⟨fun h => Bool.noConfusion ((show needs _ _ _ = false by kernel_rfl).symm.trans h), ?_⟩)
            refine RD.only 20 rfl (by kernel_rfl) Wd.a (Hd.value (v := .pointer (some ⟨b, 2, none⟩)) (by exact E.fieldAddr (b := b) (o := 0) (f := { name := "L", type := 44, offset := 2, embedded := false, tag := "", pkgPath := "", byteOffset := 16 }) (AF_ev rfl tp) Try.underlying106 rfl sz44 rfl) ⟨fun h => Bool.noConfusion ((show needs _ _ _ = false by kernel_rfl).symm.trans h), ?_⟩)
            refine RD.only 21 rfl (by kernel_rfl) Wd.a ?_
            refine H.store (b := b) (o := 2) (v := .slice X31 ((es.take (idx + 1 + ((j : Nat) : Int) - i - 1).toNat).length + ((l.drop j).length)) c32) (c' := #[.int .i64 i, .int .i64 t, .slice X31 ((es.take (idx + 1 + ((j : Nat) : Int) - i - 1).toNat).length + ((l.drop j).length)) c32]) (AF_ev rfl tp) (AF_ev rfl (up rfl (up rfl tp))) hst (.there .here) sz44 (by simp [Value.cells]) (by simp [Value.cells, Value.oneCell']) rfl fun w hst => ?_
            refine ⟨fun h => Bool.noConfusion ((show needs _ _ _ = false by kernel_rfl).symm.trans h), ?_⟩
            refine RD.fin (by kernel_rfl) (fun τ => τ 0 = .pointer (some ⟨b, 0, none⟩) ∧ τ 1 = .int .i64 idx ∧ τ 3 = .slice (some ⟨b0, o0, none⟩) l.length cl ∧ τ 14 = .int .i64 ((j : Nat) : Int) ∧ τ 15 = .int .i64 (idx + 1 + ((j : Nat) : Int)) ∧ τ 16 = .pointer (some ⟨b22, 0, none⟩) ∧ τ 17 = .int .i64 (atE i es (idx + 1 + ((j : Nat) : Int))) ∧ τ 70 = .bool true ∧ τ 82 = .bool false ∧ τ 100 = .bool false) ⟨u0 (up rfl (up rfl (up rfl (up rfl (up rfl (up rfl (up rfl (up rfl (up rfl (up rfl (up rfl (up rfl (up rfl (up rfl (up rfl (up rfl (up rfl (up rfl (up rfl (up rfl (up rfl hs0))))))))))))))))))))), u0 (up rfl (up rfl (up rfl (up rfl (up rfl (up rfl (up rfl (up rfl (up rfl (up rfl (up rfl (up rfl (up rfl (up rfl (up rfl (up rfl (up rfl (up rfl (up rfl (up rfl (up rfl hs1))))))))))))))))))))), u0 (up rfl (up rfl (up rfl (up rfl (up rfl (up rfl (up rfl (up rfl (up rfl (up rfl (up rfl (up rfl (up rfl (up rfl (up rfl (up rfl (up rfl (up rfl (up rfl (up rfl (up rfl hs3))))))))))))))))))))), u0 (up rfl (up rfl (up rfl (up rfl (up rfl (up rfl (up rfl (up rfl (up rfl (up rfl (up rfl (up rfl (up rfl (up rfl (up rfl (up rfl (up rfl (up rfl (up rfl (up rfl (up rfl hs14))))))))))))))))))))), u0 (up rfl (up rfl (up rfl (up rfl (up rfl (up rfl (up rfl (up rfl (up rfl (up rfl (up rfl (up rfl (up rfl (up rfl (up rfl (up rfl (up rfl (up rfl (up rfl (up rfl (up rfl hs15))))))))))))))))))))), u0 (up rfl (up rfl (up rfl (up rfl (up rfl (up rfl (up rfl (up rfl (up rfl (up rfl (up rfl (up rfl (up rfl (up rfl (up rfl (up rfl (up rfl (up rfl (up rfl (up rfl (up rfl hs16))))))))))))))))))))), u0 (up rfl (up rfl (up rfl (up rfl (up rfl (up rfl (up rfl (up rfl (up rfl (up rfl (up rfl (up rfl (up rfl (up rfl (up rfl (up rfl (up rfl (up rfl (up rfl (up rfl (up rfl hs17))))))))))))))))))))), u0 (up rfl (up rfl (up rfl (up rfl (up rfl (up rfl (up rfl (up rfl (up rfl (up rfl (up rfl (up rfl (up rfl (up rfl (up rfl (up rfl (up rfl (up rfl (up rfl (up rfl (up rfl hs70))))))))))))))))))))), u0 (up rfl (up rfl (up rfl (up rfl (up rfl (up rfl (up rfl (up rfl (up rfl (up rfl (up rfl (up rfl (up rfl (up rfl (up rfl (up rfl (up rfl (up rfl (up rfl (up rfl (up rfl hs82))))))))))))))))))))), u0 (up rfl (up rfl (up rfl (up rfl (up rfl (up rfl (up rfl (up rfl (up rfl (up rfl (up rfl (up rfl (up rfl (up rfl (up rfl (up rfl (up rfl (up rfl (up rfl (up rfl (up rfl hs100)))))))))))))))))))))⟩ ?_
            rintro τ ⟨hs0, hs1, hs3, hs14, hs15, hs16, hs17, hs70, hs82, hs100⟩
            refine CW.seq ?_
            refine CW.region ?_
            refine RW.soft Wd.a (v := .int .i64 idx) (by exact E.move (AF_ev rfl hs1)) ?_
            refine RW.soft Wd.a (v := .slice (some ⟨b0, o0, none⟩) l.length cl) (by exact E.move (AF_ev rfl (up rfl hs3))) ?_
            refine RW.soft Wd.a (v := .int .i64 ((l.length : Nat) : Int)) (by exact E.lenS (p := (some ⟨b0, o0, none⟩)) (l := l.length) (c := cl) Try.underlying44 (AF_ev rfl tp)) ?_
            refine RW.soft Wd.a (v := .int .i64 (idx + ((l.length : Nat) : Int))) (by exact E.add (k := .i64) (a := idx) (b := ((l.length : Nat) : Int)) (AF_ev rfl (up rfl (up rfl tp))) (AF_ev rfl tp) (show IntKind.i64.wrap (idx + ((l.length : Nat) : Int)) = idx + ((l.length : Nat) : Int) from (by rw [IntWalk.i64_in _ (by omega)]))) ?_
            refine RW.soft Wd.a (v := .int .i64 (idx + 1 + ((j : Nat) : Int))) (by exact E.move (AF_ev rfl (up rfl (up rfl (up rfl (up rfl hs15)))))) ?_
            refine RW.soft Wd.a (v := .int .i64 (idx + ((l.length : Nat) : Int))) (by exact E.assign (AF_ev rfl (up rfl tp))) ?_
            refine RW.soft Wd.a (v := .int .i64 (idx + 1 + ((j : Nat) : Int))) (by exact E.assign (AF_ev rfl (up rfl tp))) ?_
            refine RW.soft Wd.a (v := .bool true) (by exact E.assign rfl) ?_
            refine RW.fin (fun τ => τ 0 = .pointer (some ⟨b, 0, none⟩) ∧ τ 1 = .int .i64 idx ∧ τ 3 = .slice (some ⟨b0, o0, none⟩) l.length cl ∧ τ 8 = .int .i64 (idx + ((l.length : Nat) : Int)) ∧ τ 9 = .int .i64 (idx + 1 + ((j : Nat) : Int)) ∧ τ 10 = .bool true ∧ τ 14 = .int .i64 ((j : Nat) : Int) ∧ τ 15 = .int .i64 (idx + 1 + ((j : Nat) : Int)) ∧ τ 16 = .pointer (some ⟨b22, 0, none⟩) ∧ τ 17 = .int .i64 (atE i es (idx + 1 + ((j : Nat) : Int))) ∧ τ 70 = .bool true ∧ τ 82 = .bool false ∧ τ 100 = .bool false) ⟨up rfl (up rfl (up rfl (up rfl (up rfl (up rfl (up rfl (up rfl hs0))))))), up rfl (up rfl (up rfl (up rfl (up rfl (up rfl (up rfl (up rfl hs1))))))), up rfl (up rfl (up rfl (up rfl (up rfl (up rfl (up rfl (up rfl hs3))))))), up rfl (up rfl tp), up rfl tp, tp, up rfl (up rfl (up rfl (up rfl (up rfl (up rfl (up rfl (up rfl hs14))))))), up rfl (up rfl (up rfl (up rfl (up rfl (up rfl (up rfl (up rfl hs15))))))), up rfl (up rfl (up rfl (up rfl (up rfl (up rfl (up rfl (up rfl hs16))))))), up rfl (up rfl (up rfl (up rfl (up rfl (up rfl (up rfl (up rfl hs17))))))), up rfl (up rfl (up rfl (up rfl (up rfl (up rfl (up rfl (up rfl hs70))))))), up rfl (up rfl (up rfl (up rfl (up rfl (up rfl (up rfl (up rfl hs82))))))), up rfl (up rfl (up rfl (up rfl (up rfl (up rfl (up rfl (up rfl hs100)))))))⟩ ?_
            rintro τ ⟨hs0, hs1, hs3, hs8, hs9, hs10, hs14, hs15, hs16, hs17, hs70, hs82, hs100⟩
            refine CW.ret ?_
            refine Bl.r ?_
            refine Th.r ?_
            refine Th.r ?_
            refine Bl.r ?_
            refine Th.r ?_
            refine retN (rs := [.tmp 8, .tmp 9, .tmp 10]) (vs := [.int .i64 (idx + ((l.length : Nat) : Int)), .int .i64 (idx + 1 + ((j : Nat) : Int)), .bool true]) rfl (by exact (.tmp (AF_ev rfl hs8) (.tmp (AF_ev rfl hs9) (.tmp (AF_ev rfl hs10) .nil)))) (by simp) ?_
            have hst := hst.take (.there (.there (.there (.there .here))))
            have hst := hst.take (.there .here)
            have hst := hst.take (.there (.there .here))
            have hst := (hst.take (.there (.there (.there .here)))).drop
            have hst := (hst.take (.there (.there (.there .here)))).drop
            have hnr : ¬ findJ i t (ts es) idx (ts l) 0 < 0 := by omega
            have hlN : (es.take (idx + 1 + ((j : Nat) : Int) - i - 1).toNat ++ l.drop j).length = (es.take (idx + 1 + ((j : Nat) : Int) - i - 1).toNat).length + (l.drop j).length := List.length_append
            have hst : St p w (pt b (.cells #[.int .i64 i, .int .i64 t, .slice X31 (es.take (idx + 1 + ((j : Nat) : Int) - i - 1).toNat ++ l.drop j).length c32] 106) :: Own 58 4 (.slice X31 (es.take (idx + 1 + ((j : Nat) : Int) - i - 1).toNat ++ l.drop j).length c32) (es.take (idx + 1 + ((j : Nat) : Int) - i - 1).toNat ++ l.drop j).length (flat (es.take (idx + 1 + ((j : Nat) : Int) - i - 1).toNat ++ l.drop j)) :: A :: R) := by rw [hlN, flat_append]; exact hst
            have hJL : joinL i t (ts es) idx tm (ts l) es l = (es.take (idx + 1 + ((j : Nat) : Int) - i - 1).toNat ++ l.drop j) := by
              unfold joinL; rw [if_neg hnl, if_neg hcl, if_neg hnr, hr]
              rw [show (idx + (j : Int) + 1 - (i + 1)).toNat = (idx + 1 + ((j : Nat) : Int) - i - 1).toNat by omega, Int.toNat_natCast]
            refine ⟨?_, ?_⟩
            · unfold joinA joinF joinO; rw [if_neg hnl, if_neg hnl, if_neg hnl, if_neg hcl, if_neg hcl, if_neg hcl, if_neg hnr, ts_len, hr, show idx + (j : Int) + 1 = idx + 1 + (j : Int) by omega]
            · rw [hJL]; exact refClose hi (by omega) ((hE.take _).append (hEL.drop _)) hst
      · have hc19_ := hc19
        try simp only [decide_eq_true_eq, decide_eq_false_iff_not, Bool.and_eq_true, Bool.or_eq_true, Bool.and_eq_false_iff, Bool.or_eq_false_iff, Bool.not_eq_true', Bool.not_eq_false', beq_iff_eq, beq_eq_false_iff_ne, bne_iff_ne, bne_eq_false_iff_eq, ne_eq, Int.not_lt, Int.not_le, gt_iff_lt, ge_iff_le] at hc19_
        refine CW.exit ?_
        refine Th.x ?_
        refine Th.x ?_
        refine Bl.x ?_
        refine Th.n ?_
        refine CW.seq ?_
        obtain ⟨X, c, hi, hn, hE, hcc, hX, hst⟩ := refOpen hst
        refine CW.region ?_
        refine RW.soft Wd.a (v := .int .i64 idx) (by exact E.move (AF_ev rfl hs1)) ?_
        refine RW.soft Wd.a (v := .slice XL l.length cl) (by exact E.move (AF_ev rfl (up rfl hs3))) ?_
        refine RW.soft Wd.a (v := .int .i64 ((l.length : Nat) : Int)) (by exact E.lenS (p := XL) (l := l.length) (c := cl) Try.underlying44 (AF_ev rfl tp)) ?_
        refine RW.soft Wd.a (v := .int .i64 (idx + ((l.length : Nat) : Int))) (by exact E.add (k := .i64) (a := idx) (b := ((l.length : Nat) : Int)) (AF_ev rfl (up rfl (up rfl tp))) (AF_ev rfl tp) (show IntKind.i64.wrap (idx + ((l.length : Nat) : Int)) = idx + ((l.length : Nat) : Int) from (by rw [IntWalk.i64_in _ (by omega)]))) ?_
        refine RW.soft Wd.a (v := .int .i64 (idx + ((l.length : Nat) : Int))) (by exact E.assign (AF_ev rfl tp)) ?_
        refine RW.soft Wd.a (v := .int .i64 0) (by exact E.assign rfl) ?_
        refine RW.soft Wd.a (v := .bool true) (by exact E.assign rfl) ?_
        refine RW.fin (fun τ => τ 0 = .pointer (some ⟨b, 0, none⟩) ∧ τ 1 = .int .i64 idx ∧ τ 3 = .slice XL l.length cl ∧ τ 8 = .int .i64 (idx + ((l.length : Nat) : Int)) ∧ τ 9 = .int .i64 0 ∧ τ 10 = .bool true ∧ τ 14 = .int .i64 ((j : Nat) : Int) ∧ τ 70 = .bool false) ⟨up rfl (up rfl (up rfl (up rfl (up rfl (up rfl (up rfl hs0)))))), up rfl (up rfl (up rfl (up rfl (up rfl (up rfl (up rfl hs1)))))), up rfl (up rfl (up rfl (up rfl (up rfl (up rfl (up rfl hs3)))))), up rfl (up rfl tp), up rfl tp, tp, up rfl (up rfl (up rfl (up rfl (up rfl (up rfl (up rfl hs14)))))), up rfl (up rfl (up rfl (up rfl (up rfl (up rfl (up rfl (Eq.trans hs70 (congrArg Value.bool hc19))))))))⟩ ?_
        rintro τ ⟨hs0, hs1, hs3, hs8, hs9, hs10, hs14, hs70⟩
        refine CW.ret ?_
        refine retN (rs := [.tmp 8, .tmp 9, .tmp 10]) (vs := [.int .i64 (idx + ((l.length : Nat) : Int)), .int .i64 0, .bool true]) rfl (by exact (.tmp (AF_ev rfl hs8) (.tmp (AF_ev rfl hs9) (.tmp (AF_ev rfl hs10) .nil)))) (by simp) ?_
        have hst := hst.take (.there (.there .here))
        have hst := hst.take (.there (.there .here))
        have hst := hst.take (.there (.there .here))
        obtain rfl : j = l.length := by omega
        have hr : findJ i t (ts es) idx (ts l) 0 < 0 := by rw [hf, List.drop_eq_nil_of_le (by rw [ts_len]; omega)]; unfold findJ; omega
        exact ⟨by unfold joinA joinF joinO; rw [if_neg hnl, if_neg hnl, if_neg hnl, if_neg hcl, if_neg hcl, if_neg hcl, if_pos hr, ts_len], by unfold joinL; rw [if_neg hnl, if_neg hcl, if_pos hr]; exact refClose hi hn hE hst⟩
end Go.Proofs.Ytdlcjoonhojpfaa
