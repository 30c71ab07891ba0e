/- The functions of the package quorum, walked through operation by operation. -/
import Derived.Test.YtjagffnbobnofaaQ18
import Derived.Test.YtjagffnbobnofaaQ22
import Derived.Test.YtjagffnbobnofaaQ17
import Derived.Test.YtjagffnbobnofaaQ15
import Derived.Test.YtjagffnbobnofaaQ16
import Derived.Test.YtjagffnbobnofaaQ13
import Derived.Test.YtjagffnbobnofaaQ14
import Derived.Test.YtjagffnbobnofaaQ11
import Derived.Test.YtjagffnbobnofaaQ12
import Derived.Test.YtjagffnbobnofaaQ9
import Derived.Test.YtjagffnbobnofaaQ10
import Derived.Test.YtjagffnbobnofaaQ8
import Derived.Test.YtjagffnbobnofaaSN
import Derived.Test.YtjagffnbobnofaaQ6
import Derived.Test.YtjagffnbobnofaaQ7
import Derived.Test.YtjagffnbobnofaaQ4
import Derived.Test.YtjagffnbobnofaaQ5
import Derived.Test.YtjagffnbobnofaaQ2
import Derived.Test.YtjagffnbobnofaaQ1
import Derived.Test.YtjagffnbobnofaaQ3
import Derived.Test.YtjagffnbobnofaaQ0
import Derived.Test.YtjagffnbobnofaaSM
namespace Go.Proofs.Ytjagffnbobnofaa
open Go.RowKit Go.SL Go.Q18
attribute [local irreducible] Go.SL.RW Go.SL.CW Go.SL.RD Go.SL.Hd Go.SL.St
set_option linter.unusedVariables false
set_option linter.unusedSimpArgs false



theorem back_walk {p : Pers} {w : World} {R : List Assn} (bits id : Int) (hst : St p w (R)) :
    Calls Try.prog 9 #[.int .i64 bits, .int .i64 id] w fun e w => ∃ q, p.le q ∧ e = .returned (.bool true) ∧ St q w R := by
  refine enter Try.func9 rfl (by simp) (n := 89) rfl fun τ hτ => ?_
  have hs0 : τ 0 = .int .i64 bits := hτ 0 (by simp)
  have hs1 : τ 1 = .int .i64 id := hτ 1 (by simp)
  clear hτ
  refine CW.seq ?_
  refine CW.region ?_
  refine RW.soft Wd.a (v := .bool false) (by exact E.assign rfl) ?_
  refine RW.fin (fun τ => τ 0 = .int .i64 bits ∧ τ 1 = .int .i64 id ∧ τ 4 = .bool false) ⟨up rfl hs0, up rfl hs1, tp⟩ ?_
  rintro τ ⟨hs0, hs1, hs4⟩
  refine CW.seq ?_
  refine CW.region ?_
  refine RW.hard Wd.a ?_
  refine H.call0 Try.func31 nm31 rfl map0 (Calls.mono (shown18 hst) ?_)
  rintro _ w ⟨rfl, hst⟩
  refine ⟨_, rfl, ?_⟩
  show RW _ _ _ _ _ _ _
  refine RW.soft Wd.a (v := .bool true) (by exact E.assign (AF_ev rfl tp)) ?_
  refine RW.fin (fun τ => τ 0 = .int .i64 bits ∧ τ 1 = .int .i64 id ∧ τ 4 = .bool false ∧ τ 5 = .bool true) ⟨up rfl (up rfl hs0), up rfl (up rfl hs1), up rfl (up rfl hs4), tp⟩ ?_
  rintro τ ⟨hs0, hs1, hs4, hs5⟩
  refine CW.seq ?_
  refine CW.region ?_
  refine RW.soft Wd.a (v := .int .i64 bits) (by exact E.move (AF_ev rfl hs0)) ?_
  refine RW.hard Wd.a ?_
  refine H.call0 Try.func40 nm40 rfl (map1 (AF_ev rfl tp)) (Calls.mono (q_made bits hst) ?_)
  rintro _ w ⟨vX1, rfl, hst⟩
  obtain ⟨X1, c2, heX1, hcX1, hmX1, hlX1, hbX1⟩ := hst.shape
  subst heX1
  have hst0_ := keepI rfl hst
  clear hst
  obtain ⟨p, hleX1, hLX1, hst⟩ := hst0_
  have hm7X1 := made_le bits
  have hmpX1 := made_pos bits
  refine ⟨_, rfl, ?_⟩
  show RW _ _ _ _ _ _ _
  refine RW.soft Wd.a (v := .slice X1 ((madeR bits).length) c2) (by exact E.assign (AF_ev rfl tp)) ?_
  refine RW.fin (fun τ => τ 0 = .int .i64 bits ∧ τ 1 = .int .i64 id ∧ τ 4 = .bool false ∧ τ 5 = .bool true ∧ τ 6 = .slice X1 ((madeR bits).length) c2) ⟨up rfl (up rfl (up rfl hs0)), up rfl (up rfl (up rfl hs1)), up rfl (up rfl (up rfl hs4)), up rfl (up rfl (up rfl hs5)), tp⟩ ?_
  rintro τ ⟨hs0, hs1, hs4, hs5, hs6⟩
  refine CW.seq ?_
  refine CW.region ?_
  refine RW.soft Wd.a (v := .slice X1 ((madeR bits).length) c2) (by exact E.move (AF_ev rfl hs6)) ?_
  refine RW.soft Wd.a (v := .int .i64 id) (by exact E.move (AF_ev rfl (up rfl hs1))) ?_
  have hst := hst.emp
  refine RW.hard Wd.a ?_
  refine H.call0 Try.func33 nm33 rfl (map2 (AF_ev rfl (up rfl tp)) (AF_ev rfl tp)) (Calls.mono (q_Change (zs := (madeR bits)) hLX1.tells (Nat.le_trans (made_le _) (by decide)) id hst) ?_)
  rintro _ w ⟨vX3, rfl, hst⟩
  have hst := (hst.take (.there .here)).drop
  obtain ⟨X3, c4, heX3, hcX3, hmX3, hlX3, hbX3⟩ := hst.shape
  subst heX3
  refine ⟨_, rfl, ?_⟩
  show RW _ _ _ _ _ _ _
  refine RW.soft Wd.a (v := .tuple #[.slice X3 ((chgR (madeR bits) id).length) c4, .int .i64 (chgE (madeR bits) id)]) (by exact E.move (AF_ev rfl tp)) ?_
  refine RW.soft Wd.a (v := .slice X3 ((chgR (madeR bits) id).length) c4) (by exact E.extract (vs := #[.slice X3 ((chgR (madeR bits) id).length) c4, .int .i64 (chgE (madeR bits) id)]) (AF_ev rfl tp) rfl) ?_
  refine RW.soft Wd.a (v := .int .i64 (chgE (madeR bits) id)) (by exact E.extract (vs := #[.slice X3 ((chgR (madeR bits) id).length) c4, .int .i64 (chgE (madeR bits) id)]) (AF_ev rfl (up rfl tp)) rfl) ?_
  refine RW.soft Wd.a (v := .slice X3 ((chgR (madeR bits) id).length) c4) (by exact E.assign (AF_ev rfl (up rfl tp))) ?_
  refine RW.soft Wd.a (v := .int .i64 (chgE (madeR bits) id)) (by exact E.assign (AF_ev rfl (up rfl tp))) ?_
  refine RW.fin (fun τ => τ 0 = .int .i64 bits ∧ τ 1 = .int .i64 id ∧ τ 4 = .bool false ∧ τ 5 = .bool true ∧ τ 6 = .slice X1 ((madeR bits).length) c2 ∧ τ 7 = .slice X3 ((chgR (madeR bits) id).length) c4 ∧ τ 8 = .int .i64 (chgE (madeR bits) id)) ⟨up rfl (up rfl (up rfl (up rfl (up rfl (up rfl (up rfl (up rfl hs0))))))), up rfl (up rfl (up rfl (up rfl (up rfl (up rfl (up rfl (up rfl hs1))))))), up rfl (up rfl (up rfl (up rfl (up rfl (up rfl (up rfl (up rfl hs4))))))), up rfl (up rfl (up rfl (up rfl (up rfl (up rfl (up rfl (up rfl hs5))))))), up rfl (up rfl (up rfl (up rfl (up rfl (up rfl (up rfl (up rfl hs6))))))), up rfl tp, tp⟩ ?_
  rintro τ ⟨hs0, hs1, hs4, hs5, hs6, hs7, hs8⟩
  refine CW.seq ?_
  refine CW.seq ?_
  refine Or.elim (Bool.eq_false_or_eq_true ((chgE (madeR bits) id) != 0)) (fun hE => ?_) (fun hE => ?_)
  · skip
    refine CW.region ?_
    refine RW.soft Wd.a (v := .int .i64 (chgE (madeR bits) id)) (by exact E.move (AF_ev rfl hs8)) ?_
    refine RW.soft Wd.a (v := .bool true) (by exact E.b (a := (chgE (madeR bits) id) != 0) (E.neq (k := .i64) (a := chgE (madeR bits) id) (b := 0) (AF_ev rfl tp) rfl) hE) ?_
    refine RW.fin (fun τ => τ 0 = .int .i64 bits ∧ τ 1 = .int .i64 id ∧ τ 4 = .bool false ∧ τ 5 = .bool true ∧ τ 6 = .slice X1 ((madeR bits).length) c2 ∧ τ 7 = .slice X3 ((chgR (madeR bits) id).length) c4 ∧ τ 8 = .int .i64 (chgE (madeR bits) id) ∧ τ 23 = .bool true) ⟨up rfl (up rfl hs0), up rfl (up rfl hs1), up rfl (up rfl hs4), up rfl (up rfl hs5), up rfl (up rfl hs6), up rfl (up rfl hs7), up rfl (up rfl hs8), tp⟩ ?_
    rintro τ ⟨hs0, hs1, hs4, hs5, hs6, hs7, hs8, hs23⟩
    refine CW.condT (AF_ev rfl hs23) ?_
    refine CW.seq ?_
    have hE0 : chgE (madeR bits) id ≠ 0 := by simpa using hE
    obtain ⟨x, hx⟩ : ∃ z, (madeR bits)[0]? = some z := ⟨(madeR bits)[0]'(made_pos _), List.getElem?_eq_getElem (made_pos _)⟩
    obtain ⟨b9, o9, hp9, hcell9⟩ := Las.place hLX1 (made_pos _)
    subst hp9
    refine CW.cut (fun τ => τ 0 = .int .i64 bits ∧ τ 1 = .int .i64 id ∧ τ 4 = .bool (((decide (id < 1)) || (decide (id > 7))) || (((((madeR bits).length : Nat) : Int) == 1) && (x == id))) ∧ τ 5 = .bool true ∧ τ 6 = .slice (some ⟨b9, o9, none⟩) ((madeR bits).length) c2 ∧ τ 7 = .slice X3 ((chgR (madeR bits) id).length) c4 ∧ τ 8 = .int .i64 (chgE (madeR bits) id) ∧ τ 23 = .bool true) ?_ ?_
    · refine CW.region ?_
      refine RW.soft Wd.a (v := .bool true) (by exact E.move (AF_ev rfl hs5)) ?_
      refine RW.soft Wd.a (v := .bool true) (by exact E.move (AF_ev rfl tp)) ?_
      refine RW.soft (by exact Wd.yes (x := 25) rfl (AF_ev rfl tp)) (v := .int .i64 id) (by exact E.move (AF_ev rfl (up rfl (up rfl hs1)))) ?_
      refine RW.soft (by exact Wd.yes (x := 25) rfl (AF_ev rfl (up rfl tp))) (v := .bool (decide (id < 1))) (by exact E.lss (k := .i64) (a := id) (b := 1) (AF_ev rfl tp) rfl) ?_
      refine RW.soft (by exact Wd.yes (x := 25) rfl (AF_ev rfl (up rfl (up rfl tp)))) (v := .bool (decide (id < 1))) (by exact E.move (AF_ev rfl tp)) ?_
      refine Or.elim (Bool.eq_false_or_eq_true (decide (id < 1))) (fun hg5 => ?_) (fun hg5 => ?_)
      · have hg5_ := hg5
        try simp only [decide_eq_true_eq, decide_eq_false_iff_not, Bool.and_eq_true, Bool.or_eq_true, Bool.and_eq_false_iff, Bool.or_eq_false_iff, Bool.not_eq_true', Bool.not_eq_false', beq_iff_eq, beq_eq_false_iff_ne, bne_iff_ne, bne_eq_false_iff_eq, ne_eq, Int.not_lt, Int.not_le, gt_iff_lt, ge_iff_le] at hg5_
        refine RW.pass (by exact Wd.no (x := 28) (b := true) rfl (AF_ev rfl (Eq.trans tp (congrArg Value.bool hg5))) rfl) ?_
        refine RW.pass (by exact Wd.no (x := 28) (b := true) rfl (AF_ev rfl (up rfl (Eq.trans tp (congrArg Value.bool hg5)))) rfl) ?_
        refine RW.soft (by exact Wd.yes (x := 25) rfl (AF_ev rfl (up rfl (up rfl (up rfl (up rfl (up rfl tp))))))) (v := .bool true) (by exact E.pickT (AF_ev rfl (up rfl (up rfl (Eq.trans tp (congrArg Value.bool hg5))))) rfl) ?_
        refine RW.soft (by exact Wd.yes (x := 25) rfl (AF_ev rfl (up rfl (up rfl (up rfl (up rfl (up rfl (up rfl tp)))))))) (v := .bool true) (by exact E.move (AF_ev rfl tp)) ?_
        refine RW.pass (by exact Wd.no (x := 32) (b := true) rfl (AF_ev rfl tp) rfl) ?_
        refine RW.pass (by exact Wd.no (x := 32) (b := true) rfl (AF_ev rfl (up rfl tp)) rfl) ?_
        refine RW.pass (by exact Wd.no (x := 32) (b := true) rfl (AF_ev rfl (up rfl (up rfl tp))) rfl) ?_
        refine RW.pass (by exact Wd.no (x := 32) (b := true) rfl (AF_ev rfl (up rfl (up rfl (up rfl tp)))) rfl) ?_
        refine RW.pass (by exact Wd.u (x := 36) rfl (AF_ev rfl tp)) ?_
        refine RW.pass (by exact Wd.u (x := 36) rfl (AF_ev rfl (up rfl tp))) ?_
        refine RW.pass (by exact Wd.u (x := 36) rfl (AF_ev rfl (up rfl (up rfl tp)))) ?_
        refine RW.pass (by exact Wd.u (x := 36) rfl (AF_ev rfl (up rfl (up rfl (up rfl tp))))) ?_
        refine RW.pass (by exact Wd.u (x := 36) rfl (AF_ev rfl (up rfl (up rfl (up rfl (up rfl tp)))))) ?_
        refine RW.pass (by exact Wd.no (x := 32) (b := true) rfl (AF_ev rfl (up rfl (up rfl (up rfl (up rfl (up rfl (up rfl (up rfl (up rfl (up rfl tp)))))))))) rfl) ?_
        refine RW.soft (by exact Wd.yes (x := 25) rfl (AF_ev rfl (up rfl (up rfl (up rfl (up rfl (up rfl (up rfl (up rfl (up rfl (up rfl (up rfl (up rfl (up rfl (up rfl (up rfl (up rfl (up rfl (up rfl tp))))))))))))))))))) (v := .bool true) (by exact E.pickT (AF_ev rfl (up rfl (up rfl (up rfl (up rfl (up rfl (up rfl (up rfl (up rfl (up rfl (up rfl tp))))))))))) rfl) ?_
        refine RW.soft Wd.a (v := .bool true) (by exact E.pickT (AF_ev rfl (up rfl (up rfl (up rfl (up rfl (up rfl (up rfl (up rfl (up rfl (up rfl (up rfl (up rfl (up rfl (up rfl (up rfl (up rfl (up rfl (up rfl (up rfl tp))))))))))))))))))) (AF_ev rfl tp)) ?_
        refine RW.soft Wd.a (v := .bool true) (by exact E.assign (AF_ev rfl tp)) ?_
        refine RW.nil ⟨rfl, rfl, up rfl (up rfl (up rfl (up rfl (up rfl (up rfl (up rfl (up rfl (up rfl (up rfl (up rfl (up rfl (up rfl (up rfl (up rfl (up rfl (up rfl (up rfl (up rfl (up rfl (up rfl (up rfl hs0))))))))))))))))))))), up rfl (up rfl (up rfl (up rfl (up rfl (up rfl (up rfl (up rfl (up rfl (up rfl (up rfl (up rfl (up rfl (up rfl (up rfl (up rfl (up rfl (up rfl (up rfl (up rfl (up rfl (up rfl hs1))))))))))))))))))))), (bool_eq (a := true) tp (by simp only [hg5, Bool.true_and, Bool.false_and, Bool.true_or, Bool.false_or])), up rfl (up rfl (up rfl (up rfl (up rfl (up rfl (up rfl (up rfl (up rfl (up rfl (up rfl (up rfl (up rfl (up rfl (up rfl (up rfl (up rfl (up rfl (up rfl (up rfl (up rfl (up rfl hs5))))))))))))))))))))), up rfl (up rfl (up rfl (up rfl (up rfl (up rfl (up rfl (up rfl (up rfl (up rfl (up rfl (up rfl (up rfl (up rfl (up rfl (up rfl (up rfl (up rfl (up rfl (up rfl (up rfl (up rfl hs6))))))))))))))))))))), up rfl (up rfl (up rfl (up rfl (up rfl (up rfl (up rfl (up rfl (up rfl (up rfl (up rfl (up rfl (up rfl (up rfl (up rfl (up rfl (up rfl (up rfl (up rfl (up rfl (up rfl (up rfl hs7))))))))))))))))))))), up rfl (up rfl (up rfl (up rfl (up rfl (up rfl (up rfl (up rfl (up rfl (up rfl (up rfl (up rfl (up rfl (up rfl (up rfl (up rfl (up rfl (up rfl (up rfl (up rfl (up rfl (up rfl hs8))))))))))))))))))))), up rfl (up rfl (up rfl (up rfl (up rfl (up rfl (up rfl (up rfl (up rfl (up rfl (up rfl (up rfl (up rfl (up rfl (up rfl (up rfl (up rfl (up rfl (up rfl (up rfl (up rfl (up rfl hs23)))))))))))))))))))))⟩
      · have hg5_ := hg5
        try simp only [decide_eq_true_eq, decide_eq_false_iff_not, Bool.and_eq_true, Bool.or_eq_true, Bool.and_eq_false_iff, Bool.or_eq_false_iff, Bool.not_eq_true', Bool.not_eq_false', beq_iff_eq, beq_eq_false_iff_ne, bne_iff_ne, bne_eq_false_iff_eq, ne_eq, Int.not_lt, Int.not_le, gt_iff_lt, ge_iff_le] at hg5_
        refine RW.soft (by exact Wd.yes (x := 28) rfl (AF_ev rfl (Eq.trans tp (congrArg Value.bool hg5)))) (v := .int .i64 id) (by exact E.move (AF_ev rfl (up rfl (up rfl (up rfl (up rfl (up rfl hs1))))))) ?_
        refine RW.soft (by exact Wd.yes (x := 28) rfl (AF_ev rfl (up rfl (Eq.trans tp (congrArg Value.bool hg5))))) (v := .bool (decide (id > 7))) (by exact E.gtr (k := .i64) (a := id) (b := 7) (AF_ev rfl tp) rfl) ?_
        refine RW.soft (by exact Wd.yes (x := 25) rfl (AF_ev rfl (up rfl (up rfl (up rfl (up rfl (up rfl tp))))))) (v := .bool (decide (id > 7))) (by exact E.pickF (AF_ev rfl (up rfl (up rfl (Eq.trans tp (congrArg Value.bool hg5))))) (AF_ev rfl tp)) ?_
        refine RW.soft (by exact Wd.yes (x := 25) rfl (AF_ev rfl (up rfl (up rfl (up rfl (up rfl (up rfl (up rfl tp)))))))) (v := .bool (decide (id > 7))) (by exact E.move (AF_ev rfl tp)) ?_
        refine Or.elim (Bool.eq_false_or_eq_true (decide (id > 7))) (fun hg6 => ?_) (fun hg6 => ?_)
        · have hg6_ := hg6
          try simp only [decide_eq_true_eq, decide_eq_false_iff_not, Bool.and_eq_true, Bool.or_eq_true, Bool.and_eq_false_iff, Bool.or_eq_false_iff, Bool.not_eq_true', Bool.not_eq_false', beq_iff_eq, beq_eq_false_iff_ne, bne_iff_ne, bne_eq_false_iff_eq, ne_eq, Int.not_lt, Int.not_le, gt_iff_lt, ge_iff_le] at hg6_
          refine RW.pass (by exact Wd.no (x := 32) (b := true) rfl (AF_ev rfl (Eq.trans tp (congrArg Value.bool hg6))) rfl) ?_
          refine RW.pass (by exact Wd.no (x := 32) (b := true) rfl (AF_ev rfl (up rfl (Eq.trans tp (congrArg Value.bool hg6)))) rfl) ?_
          refine RW.pass (by exact Wd.no (x := 32) (b := true) rfl (AF_ev rfl (up rfl (up rfl (Eq.trans tp (congrArg Value.bool hg6))))) rfl) ?_
          refine RW.pass (by exact Wd.no (x := 32) (b := true) rfl (AF_ev rfl (up rfl (up rfl (up rfl (Eq.trans tp (congrArg Value.bool hg6)))))) rfl) ?_
          refine RW.pass (by exact Wd.u (x := 36) rfl (AF_ev rfl tp)) ?_
          refine RW.pass (by exact Wd.u (x := 36) rfl (AF_ev rfl (up rfl tp))) ?_
          refine RW.pass (by exact Wd.u (x := 36) rfl (AF_ev rfl (up rfl (up rfl tp)))) ?_
          refine RW.pass (by exact Wd.u (x := 36) rfl (AF_ev rfl (up rfl (up rfl (up rfl tp))))) ?_
          refine RW.pass (by exact Wd.u (x := 36) rfl (AF_ev rfl (up rfl (up rfl (up rfl (up rfl tp)))))) ?_
          refine RW.pass (by exact Wd.no (x := 32) (b := true) rfl (AF_ev rfl (up rfl (up rfl (up rfl (up rfl (up rfl (up rfl (up rfl (up rfl (up rfl (Eq.trans tp (congrArg Value.bool hg6)))))))))))) rfl) ?_
          refine RW.soft (by exact Wd.yes (x := 25) rfl (AF_ev rfl (up rfl (up rfl (up rfl (up rfl (up rfl (up rfl (up rfl (up rfl (up rfl (up rfl (up rfl (up rfl (up rfl (up rfl (up rfl (up rfl (up rfl tp))))))))))))))))))) (v := .bool true) (by exact E.pickT (AF_ev rfl (up rfl (up rfl (up rfl (up rfl (up rfl (up rfl (up rfl (up rfl (up rfl (up rfl (Eq.trans tp (congrArg Value.bool hg6))))))))))))) rfl) ?_
          refine RW.soft Wd.a (v := .bool true) (by exact E.pickT (AF_ev rfl (up rfl (up rfl (up rfl (up rfl (up rfl (up rfl (up rfl (up rfl (up rfl (up rfl (up rfl (up rfl (up rfl (up rfl (up rfl (up rfl (up rfl (up rfl tp))))))))))))))))))) (AF_ev rfl tp)) ?_
          refine RW.soft Wd.a (v := .bool true) (by exact E.assign (AF_ev rfl tp)) ?_
          refine RW.nil ⟨rfl, rfl, up rfl (up rfl (up rfl (up rfl (up rfl (up rfl (up rfl (up rfl (up rfl (up rfl (up rfl (up rfl (up rfl (up rfl (up rfl (up rfl (up rfl (up rfl (up rfl (up rfl (up rfl (up rfl hs0))))))))))))))))))))), up rfl (up rfl (up rfl (up rfl (up rfl (up rfl (up rfl (up rfl (up rfl (up rfl (up rfl (up rfl (up rfl (up rfl (up rfl (up rfl (up rfl (up rfl (up rfl (up rfl (up rfl (up rfl hs1))))))))))))))))))))), (bool_eq (a := true) tp (by simp only [hg5, hg6, Bool.true_and, Bool.false_and, Bool.true_or, Bool.false_or])), up rfl (up rfl (up rfl (up rfl (up rfl (up rfl (up rfl (up rfl (up rfl (up rfl (up rfl (up rfl (up rfl (up rfl (up rfl (up rfl (up rfl (up rfl (up rfl (up rfl (up rfl (up rfl hs5))))))))))))))))))))), up rfl (up rfl (up rfl (up rfl (up rfl (up rfl (up rfl (up rfl (up rfl (up rfl (up rfl (up rfl (up rfl (up rfl (up rfl (up rfl (up rfl (up rfl (up rfl (up rfl (up rfl (up rfl hs6))))))))))))))))))))), up rfl (up rfl (up rfl (up rfl (up rfl (up rfl (up rfl (up rfl (up rfl (up rfl (up rfl (up rfl (up rfl (up rfl (up rfl (up rfl (up rfl (up rfl (up rfl (up rfl (up rfl (up rfl hs7))))))))))))))))))))), up rfl (up rfl (up rfl (up rfl (up rfl (up rfl (up rfl (up rfl (up rfl (up rfl (up rfl (up rfl (up rfl (up rfl (up rfl (up rfl (up rfl (up rfl (up rfl (up rfl (up rfl (up rfl hs8))))))))))))))))))))), up rfl (up rfl (up rfl (up rfl (up rfl (up rfl (up rfl (up rfl (up rfl (up rfl (up rfl (up rfl (up rfl (up rfl (up rfl (up rfl (up rfl (up rfl (up rfl (up rfl (up rfl (up rfl hs23)))))))))))))))))))))⟩
        · have hg6_ := hg6
          try simp only [decide_eq_true_eq, decide_eq_false_iff_not, Bool.and_eq_true, Bool.or_eq_true, Bool.and_eq_false_iff, Bool.or_eq_false_iff, Bool.not_eq_true', Bool.not_eq_false', beq_iff_eq, beq_eq_false_iff_ne, bne_iff_ne, bne_eq_false_iff_eq, ne_eq, Int.not_lt, Int.not_le, gt_iff_lt, ge_iff_le] at hg6_
          refine RW.soft (by exact Wd.yes (x := 32) rfl (AF_ev rfl (Eq.trans tp (congrArg Value.bool hg6)))) (v := .slice (some ⟨b9, o9, none⟩) ((madeR bits).length) c2) (by exact E.move (AF_ev rfl (up rfl (up rfl (up rfl (up rfl (up rfl (up rfl (up rfl (up rfl (up rfl hs6))))))))))) ?_
          refine RW.soft (by exact Wd.yes (x := 32) rfl (AF_ev rfl (up rfl (Eq.trans tp (congrArg Value.bool hg6))))) (v := .int .i64 (((madeR bits).length : Nat) : Int)) (by exact E.lenS (p := (some ⟨b9, o9, none⟩)) (l := (madeR bits).length) (c := c2) Try.underlying58 (AF_ev rfl tp)) ?_
          refine RW.soft (by exact Wd.yes (x := 32) rfl (AF_ev rfl (up rfl (up rfl (Eq.trans tp (congrArg Value.bool hg6)))))) (v := .bool ((((madeR bits).length : Nat) : Int) == 1)) (by exact E.eql (k := .i64) (a := (((madeR bits).length : Nat) : Int)) (b := 1) (AF_ev rfl tp) rfl) ?_
          refine RW.soft (by exact Wd.yes (x := 32) rfl (AF_ev rfl (up rfl (up rfl (up rfl (Eq.trans tp (congrArg Value.bool hg6))))))) (v := .bool ((((madeR bits).length : Nat) : Int) == 1)) (by exact E.move (AF_ev rfl tp)) ?_
          refine Or.elim (Bool.eq_false_or_eq_true ((((madeR bits).length : Nat) : Int) == 1)) (fun hg7 => ?_) (fun hg7 => ?_)
          · have hg7_ := hg7
            try simp only [decide_eq_true_eq, decide_eq_false_iff_not, Bool.and_eq_true, Bool.or_eq_true, Bool.and_eq_false_iff, Bool.or_eq_false_iff, Bool.not_eq_true', Bool.not_eq_false', beq_iff_eq, beq_eq_false_iff_ne, bne_iff_ne, bne_eq_false_iff_eq, ne_eq, Int.not_lt, Int.not_le, gt_iff_lt, ge_iff_le] at hg7_
            refine RW.soft (by exact Wd.yes (x := 36) rfl (AF_ev rfl (Eq.trans tp (congrArg Value.bool hg7)))) (v := .slice (some ⟨b9, o9, none⟩) ((madeR bits).length) c2) (by exact E.move (AF_ev rfl (up rfl (up rfl (up rfl (up rfl (up rfl (up rfl (up rfl (up rfl (up rfl (up rfl (up rfl (up rfl (up rfl hs6))))))))))))))) ?_
            refine RW.soft (by exact Wd.yes (x := 36) rfl (AF_ev rfl (up rfl (Eq.trans tp (congrArg Value.bool hg7))))) (v := .pointer (some ⟨b9, o9 + 0 * 1, none⟩)) (by exact E.indexAddr (b := b9) (o := o9) (l := (madeR bits).length) (c := c2) (i := 0) Try.underlying58 sz3 (AF_ev rfl tp) rfl (by omega) (by omega) (by simp)) ?_
            refine RW.soft (by exact Wd.yes (x := 36) rfl (AF_ev rfl (up rfl (up rfl (Eq.trans tp (congrArg Value.bool hg7)))))) (v := .int .i64 x) (by exact E.load (a := ⟨b9, o9 + 0 * 1, none⟩) Try.underlying3 rfl (AF_ev rfl tp) (by exact hcell9 hst _ _ (flat_get (j := 0) ienc_len hx (rfl)))) ?_
            refine RW.soft (by exact Wd.yes (x := 36) rfl (AF_ev rfl (up rfl (up rfl (up rfl (Eq.trans tp (congrArg Value.bool hg7))))))) (v := .int .i64 id) (by exact E.move (AF_ev rfl (up rfl (up rfl (up rfl (up rfl (up rfl (up rfl (up rfl (up rfl (up rfl (up rfl (up rfl (up rfl (up rfl (up rfl (up rfl (up rfl hs1)))))))))))))))))) ?_
            refine RW.soft (by exact Wd.yes (x := 36) rfl (AF_ev rfl (up rfl (up rfl (up rfl (up rfl (Eq.trans tp (congrArg Value.bool hg7)))))))) (v := .bool (x == id)) (by exact E.eql (k := .i64) (a := x) (b := id) (AF_ev rfl (up rfl tp)) (AF_ev rfl tp)) ?_
            refine RW.soft (by exact Wd.yes (x := 32) rfl (AF_ev rfl (up rfl (up rfl (up rfl (up rfl (up rfl (up rfl (up rfl (up rfl (up rfl (Eq.trans tp (congrArg Value.bool hg6))))))))))))) (v := .bool (x == id)) (by exact E.pickT (AF_ev rfl (up rfl (up rfl (up rfl (up rfl (up rfl (Eq.trans tp (congrArg Value.bool hg7)))))))) (AF_ev rfl tp)) ?_
            refine RW.soft (by exact Wd.yes (x := 25) rfl (AF_ev rfl (up rfl (up rfl (up rfl (up rfl (up rfl (up rfl (up rfl (up rfl (up rfl (up rfl (up rfl (up rfl (up rfl (up rfl (up rfl (up rfl (up rfl tp))))))))))))))))))) (v := .bool (x == id)) (by exact E.pickF (AF_ev rfl (up rfl (up rfl (up rfl (up rfl (up rfl (up rfl (up rfl (up rfl (up rfl (up rfl (Eq.trans tp (congrArg Value.bool hg6))))))))))))) (AF_ev rfl tp)) ?_
            refine RW.soft Wd.a (v := .bool (x == id)) (by exact E.pickT (AF_ev rfl (up rfl (up rfl (up rfl (up rfl (up rfl (up rfl (up rfl (up rfl (up rfl (up rfl (up rfl (up rfl (up rfl (up rfl (up rfl (up rfl (up rfl (up rfl tp))))))))))))))))))) (AF_ev rfl tp)) ?_
            refine RW.soft Wd.a (v := .bool (x == id)) (by exact E.assign (AF_ev rfl tp)) ?_
            refine RW.nil ⟨rfl, rfl, up rfl (up rfl (up rfl (up rfl (up rfl (up rfl (up rfl (up rfl (up rfl (up rfl (up rfl (up rfl (up rfl (up rfl (up rfl (up rfl (up rfl (up rfl (up rfl (up rfl (up rfl (up rfl hs0))))))))))))))))))))), up rfl (up rfl (up rfl (up rfl (up rfl (up rfl (up rfl (up rfl (up rfl (up rfl (up rfl (up rfl (up rfl (up rfl (up rfl (up rfl (up rfl (up rfl (up rfl (up rfl (up rfl (up rfl hs1))))))))))))))))))))), (bool_eq (a := x == id) tp (by simp only [hg5, hg6, hg7, Bool.true_and, Bool.false_and, Bool.true_or, Bool.false_or])), up rfl (up rfl (up rfl (up rfl (up rfl (up rfl (up rfl (up rfl (up rfl (up rfl (up rfl (up rfl (up rfl (up rfl (up rfl (up rfl (up rfl (up rfl (up rfl (up rfl (up rfl (up rfl hs5))))))))))))))))))))), up rfl (up rfl (up rfl (up rfl (up rfl (up rfl (up rfl (up rfl (up rfl (up rfl (up rfl (up rfl (up rfl (up rfl (up rfl (up rfl (up rfl (up rfl (up rfl (up rfl (up rfl (up rfl hs6))))))))))))))))))))), up rfl (up rfl (up rfl (up rfl (up rfl (up rfl (up rfl (up rfl (up rfl (up rfl (up rfl (up rfl (up rfl (up rfl (up rfl (up rfl (up rfl (up rfl (up rfl (up rfl (up rfl (up rfl hs7))))))))))))))))))))), up rfl (up rfl (up rfl (up rfl (up rfl (up rfl (up rfl (up rfl (up rfl (up rfl (up rfl (up rfl (up rfl (up rfl (up rfl (up rfl (up rfl (up rfl (up rfl (up rfl (up rfl (up rfl hs8))))))))))))))))))))), up rfl (up rfl (up rfl (up rfl (up rfl (up rfl (up rfl (up rfl (up rfl (up rfl (up rfl (up rfl (up rfl (up rfl (up rfl (up rfl (up rfl (up rfl (up rfl (up rfl (up rfl (up rfl hs23)))))))))))))))))))))⟩
          · have hg7_ := hg7
            try simp only [decide_eq_true_eq, decide_eq_false_iff_not, Bool.and_eq_true, Bool.or_eq_true, Bool.and_eq_false_iff, Bool.or_eq_false_iff, Bool.not_eq_true', Bool.not_eq_false', beq_iff_eq, beq_eq_false_iff_ne, bne_iff_ne, bne_eq_false_iff_eq, ne_eq, Int.not_lt, Int.not_le, gt_iff_lt, ge_iff_le] at hg7_
            refine RW.pass (by exact Wd.no (x := 36) (b := false) rfl (AF_ev rfl (Eq.trans tp (congrArg Value.bool hg7))) rfl) ?_
            refine RW.pass (by exact Wd.no (x := 36) (b := false) rfl (AF_ev rfl (up rfl (Eq.trans tp (congrArg Value.bool hg7)))) rfl) ?_
            refine RW.pass (by exact Wd.no (x := 36) (b := false) rfl (AF_ev rfl (up rfl (up rfl (Eq.trans tp (congrArg Value.bool hg7))))) rfl) ?_
            refine RW.pass (by exact Wd.no (x := 36) (b := false) rfl (AF_ev rfl (up rfl (up rfl (up rfl (Eq.trans tp (congrArg Value.bool hg7)))))) rfl) ?_
            refine RW.pass (by exact Wd.no (x := 36) (b := false) rfl (AF_ev rfl (up rfl (up rfl (up rfl (up rfl (Eq.trans tp (congrArg Value.bool hg7))))))) rfl) ?_
            refine RW.soft (by exact Wd.yes (x := 32) rfl (AF_ev rfl (up rfl (up rfl (up rfl (up rfl (up rfl (up rfl (up rfl (up rfl (up rfl (Eq.trans tp (congrArg Value.bool hg6))))))))))))) (v := .bool false) (by exact E.pickF (AF_ev rfl (up rfl (up rfl (up rfl (up rfl (up rfl (Eq.trans tp (congrArg Value.bool hg7)))))))) rfl) ?_
            refine RW.soft (by exact Wd.yes (x := 25) rfl (AF_ev rfl (up rfl (up rfl (up rfl (up rfl (up rfl (up rfl (up rfl (up rfl (up rfl (up rfl (up rfl (up rfl (up rfl (up rfl (up rfl (up rfl (up rfl tp))))))))))))))))))) (v := .bool false) (by exact E.pickF (AF_ev rfl (up rfl (up rfl (up rfl (up rfl (up rfl (up rfl (up rfl (up rfl (up rfl (up rfl (Eq.trans tp (congrArg Value.bool hg6))))))))))))) (AF_ev rfl tp)) ?_
            refine RW.soft Wd.a (v := .bool false) (by exact E.pickT (AF_ev rfl (up rfl (up rfl (up rfl (up rfl (up rfl (up rfl (up rfl (up rfl (up rfl (up rfl (up rfl (up rfl (up rfl (up rfl (up rfl (up rfl (up rfl (up rfl tp))))))))))))))))))) (AF_ev rfl tp)) ?_
            refine RW.soft Wd.a (v := .bool false) (by exact E.assign (AF_ev rfl tp)) ?_
            refine RW.nil ⟨rfl, rfl, up rfl (up rfl (up rfl (up rfl (up rfl (up rfl (up rfl (up rfl (up rfl (up rfl (up rfl (up rfl (up rfl (up rfl (up rfl (up rfl (up rfl (up rfl (up rfl (up rfl (up rfl (up rfl hs0))))))))))))))))))))), up rfl (up rfl (up rfl (up rfl (up rfl (up rfl (up rfl (up rfl (up rfl (up rfl (up rfl (up rfl (up rfl (up rfl (up rfl (up rfl (up rfl (up rfl (up rfl (up rfl (up rfl (up rfl hs1))))))))))))))))))))), (bool_eq (a := false) tp (by simp only [hg5, hg6, hg7, Bool.true_and, Bool.false_and, Bool.true_or, Bool.false_or])), up rfl (up rfl (up rfl (up rfl (up rfl (up rfl (up rfl (up rfl (up rfl (up rfl (up rfl (up rfl (up rfl (up rfl (up rfl (up rfl (up rfl (up rfl (up rfl (up rfl (up rfl (up rfl hs5))))))))))))))))))))), up rfl (up rfl (up rfl (up rfl (up rfl (up rfl (up rfl (up rfl (up rfl (up rfl (up rfl (up rfl (up rfl (up rfl (up rfl (up rfl (up rfl (up rfl (up rfl (up rfl (up rfl (up rfl hs6))))))))))))))))))))), up rfl (up rfl (up rfl (up rfl (up rfl (up rfl (up rfl (up rfl (up rfl (up rfl (up rfl (up rfl (up rfl (up rfl (up rfl (up rfl (up rfl (up rfl (up rfl (up rfl (up rfl (up rfl hs7))))))))))))))))))))), up rfl (up rfl (up rfl (up rfl (up rfl (up rfl (up rfl (up rfl (up rfl (up rfl (up rfl (up rfl (up rfl (up rfl (up rfl (up rfl (up rfl (up rfl (up rfl (up rfl (up rfl (up rfl hs8))))))))))))))))))))), up rfl (up rfl (up rfl (up rfl (up rfl (up rfl (up rfl (up rfl (up rfl (up rfl (up rfl (up rfl (up rfl (up rfl (up rfl (up rfl (up rfl (up rfl (up rfl (up rfl (up rfl (up rfl hs23)))))))))))))))))))))⟩
    rintro τ ⟨hs0, hs1, hs4, hs5, hs6, hs7, hs8, hs23⟩
    refine CW.ret ?_
    refine Th.r ?_
    refine ret1 (v := .bool (((decide (id < 1)) || (decide (id > 7))) || (((((madeR bits).length : Nat) : Int) == 1) && (x == id)))) rfl (by exact (.tmp (AF_ev rfl hs4) .nil)) ?_
    have hst := (hst.take .here).drop
    refine ⟨p, hleX1, ?_, hst⟩
    have hfin : (((decide (id < 1)) || (decide (id > 7))) || (((((madeR bits).length : Nat) : Int) == 1) && (x == id))) = true := by
      have hf := back_fail (made_ok bits) hE0 hx
      rcases hf with h | h | ⟨h1, h2⟩
      · simp [h]
      · simp [h]
      · simp [h1, h2]
    rw [hfin]
  · skip
    refine CW.region ?_
    refine RW.soft Wd.a (v := .int .i64 (chgE (madeR bits) id)) (by exact E.move (AF_ev rfl hs8)) ?_
    refine RW.soft Wd.a (v := .bool false) (by exact E.b (a := (chgE (madeR bits) id) != 0) (E.neq (k := .i64) (a := chgE (madeR bits) id) (b := 0) (AF_ev rfl tp) rfl) hE) ?_
    refine RW.fin (fun τ => τ 0 = .int .i64 bits ∧ τ 1 = .int .i64 id ∧ τ 4 = .bool false ∧ τ 5 = .bool true ∧ τ 6 = .slice X1 ((madeR bits).length) c2 ∧ τ 7 = .slice X3 ((chgR (madeR bits) id).length) c4 ∧ τ 8 = .int .i64 (chgE (madeR bits) id) ∧ τ 23 = .bool false) ⟨up rfl (up rfl hs0), up rfl (up rfl hs1), up rfl (up rfl hs4), up rfl (up rfl hs5), up rfl (up rfl hs6), up rfl (up rfl hs7), up rfl (up rfl hs8), tp⟩ ?_
    rintro τ ⟨hs0, hs1, hs4, hs5, hs6, hs7, hs8, hs23⟩
    refine CW.condF (AF_ev rfl hs23) ?_
    refine CW.skip ?_
    refine Th.n ?_
    refine CW.seq ?_
    have hE0 : chgE (madeR bits) id = 0 := by simpa using hE
    obtain ⟨hb1, hb2⟩ := back_list hE0
    refine CW.region ?_
    refine RW.soft Wd.a (v := .slice X3 ((chgR (madeR bits) id).length) c4) (by exact E.move (AF_ev rfl hs7)) ?_
    refine RW.soft Wd.a (v := .int .i64 id) (by exact E.move (AF_ev rfl (up rfl hs1))) ?_
    refine RW.hard Wd.a ?_
    refine H.call0 Try.func33 nm33 rfl (map2 (AF_ev rfl (up rfl tp)) (AF_ev rfl tp)) (Calls.mono ((show Calls Try.prog 33 #[.slice X3 ((chgR (madeR bits) id).length) c4, .int .i64 id] w (fun e w => ∃ v, e = .returned (.tuple #[v, .int .i64 0]) ∧ St p w (Own 3 1 v (madeR bits).length ((madeR bits).flatMap ienc) :: Own 3 1 (.slice X3 ((chgR (madeR bits) id).length) c4) ((chgR (madeR bits) id).length) ((chgR (madeR bits) id).flatMap ienc) :: R)) from (by
      have hq := q_Change (zs := (chgR (madeR bits) id)) (own_TI (by first | rfl | omega | simp)) (Nat.le_trans (chg_le _ _) (by decide)) id hst
      rw [hb1, hb2] at hq; exact hq))) ?_)
    rintro _ w ⟨vX8, rfl, hst⟩
    obtain ⟨X8, c9, heX8, hcX8, hmX8, hlX8, hbX8⟩ := hst.shape
    subst heX8
    refine ⟨_, rfl, ?_⟩
    show RW _ _ _ _ _ _ _
    refine RW.soft Wd.a (v := .tuple #[.slice X8 ((madeR bits).length) c9, .int .i64 0]) (by exact E.move (AF_ev rfl tp)) ?_
    refine RW.soft Wd.a (v := .slice X8 ((madeR bits).length) c9) (by exact E.extract (vs := #[.slice X8 ((madeR bits).length) c9, .int .i64 0]) (AF_ev rfl tp) rfl) ?_
    refine RW.soft Wd.a (v := .int .i64 0) (by exact E.extract (vs := #[.slice X8 ((madeR bits).length) c9, .int .i64 0]) (AF_ev rfl (up rfl tp)) rfl) ?_
    refine RW.soft Wd.a (v := .slice X8 ((madeR bits).length) c9) (by exact E.assign (AF_ev rfl (up rfl tp))) ?_
    refine RW.soft Wd.a (v := .int .i64 0) (by exact E.assign (AF_ev rfl (up rfl tp))) ?_
    refine RW.fin (fun τ => τ 0 = .int .i64 bits ∧ τ 1 = .int .i64 id ∧ τ 4 = .bool false ∧ τ 5 = .bool true ∧ τ 6 = .slice X1 ((madeR bits).length) c2 ∧ τ 7 = .slice X3 ((chgR (madeR bits) id).length) c4 ∧ τ 8 = .int .i64 (chgE (madeR bits) id) ∧ τ 9 = .slice X8 ((madeR bits).length) c9 ∧ τ 10 = .int .i64 0 ∧ τ 23 = .bool false) ⟨up rfl (up rfl (up rfl (up rfl (up rfl (up rfl (up rfl (up rfl hs0))))))), up rfl (up rfl (up rfl (up rfl (up rfl (up rfl (up rfl (up rfl hs1))))))), up rfl (up rfl (up rfl (up rfl (up rfl (up rfl (up rfl (up rfl hs4))))))), up rfl (up rfl (up rfl (up rfl (up rfl (up rfl (up rfl (up rfl hs5))))))), up rfl (up rfl (up rfl (up rfl (up rfl (up rfl (up rfl (up rfl hs6))))))), up rfl (up rfl (up rfl (up rfl (up rfl (up rfl (up rfl (up rfl hs7))))))), up rfl (up rfl (up rfl (up rfl (up rfl (up rfl (up rfl (up rfl hs8))))))), up rfl tp, tp, up rfl (up rfl (up rfl (up rfl (up rfl (up rfl (up rfl (up rfl hs23)))))))⟩ ?_
    rintro τ ⟨hs0, hs1, hs4, hs5, hs6, hs7, hs8, hs9, hs10, hs23⟩
    refine CW.seq ?_
    refine CW.region ?_
    refine RW.soft Wd.a (v := .slice X8 ((madeR bits).length) c9) (by exact E.move (AF_ev rfl hs9)) ?_
    refine RW.soft Wd.a (v := .slice X1 ((madeR bits).length) c2) (by exact E.move (AF_ev rfl (up rfl hs6))) ?_
    have hst := hst.emp
    have hst := hst.take (.there .here)
    refine RW.hard Wd.a ?_
    refine H.call0 Try.func35 nm35 rfl (map2 (AF_ev rfl (up rfl tp)) (AF_ev rfl tp)) (Calls.mono (q_ints (zs := (madeR bits)) (own_TI (by first | rfl | omega | simp)) hLX1.tells (Nat.le_trans (made_le _) (by decide)) hst) ?_)
    rintro _ w ⟨rfl, hst⟩
    have hst := (hst.take (.there .here)).drop
    refine ⟨_, rfl, ?_⟩
    show RW _ _ _ _ _ _ _
    refine RW.soft Wd.a (v := .bool true) (by exact E.assign (AF_ev rfl tp)) ?_
    refine RW.fin (fun τ => τ 0 = .int .i64 bits ∧ τ 1 = .int .i64 id ∧ τ 4 = .bool false ∧ τ 5 = .bool true ∧ τ 6 = .slice X1 ((madeR bits).length) c2 ∧ τ 7 = .slice X3 ((chgR (madeR bits) id).length) c4 ∧ τ 8 = .int .i64 (chgE (madeR bits) id) ∧ τ 9 = .slice X8 ((madeR bits).length) c9 ∧ τ 10 = .int .i64 0 ∧ τ 11 = .bool true ∧ τ 23 = .bool false) ⟨up rfl (up rfl (up rfl (up rfl hs0))), up rfl (up rfl (up rfl (up rfl hs1))), up rfl (up rfl (up rfl (up rfl hs4))), up rfl (up rfl (up rfl (up rfl hs5))), up rfl (up rfl (up rfl (up rfl hs6))), up rfl (up rfl (up rfl (up rfl hs7))), up rfl (up rfl (up rfl (up rfl hs8))), up rfl (up rfl (up rfl (up rfl hs9))), up rfl (up rfl (up rfl (up rfl hs10))), tp, up rfl (up rfl (up rfl (up rfl hs23)))⟩ ?_
    rintro τ ⟨hs0, hs1, hs4, hs5, hs6, hs7, hs8, hs9, hs10, hs11, hs23⟩
    refine CW.seq ?_
    have hc7_ := chg_le (madeR bits) id
    refine CW.region ?_
    refine RW.soft Wd.a (v := .slice X3 ((chgR (madeR bits) id).length) c4) (by exact E.move (AF_ev rfl hs7)) ?_
    refine RW.soft Wd.a (v := .int .i64 (((chgR (madeR bits) id).length : Nat) : Int)) (by exact E.lenS (p := X3) (l := (chgR (madeR bits) id).length) (c := c4) Try.underlying58 (AF_ev rfl tp)) ?_
    refine RW.soft Wd.a (v := .slice X1 ((madeR bits).length) c2) (by exact E.move (AF_ev rfl (up rfl (up rfl hs6)))) ?_
    refine RW.soft Wd.a (v := .int .i64 (((madeR bits).length : Nat) : Int)) (by exact E.lenS (p := X1) (l := (madeR bits).length) (c := c2) Try.underlying58 (AF_ev rfl tp)) ?_
    refine RW.soft Wd.a (v := .int .i64 ((((chgR (madeR bits) id).length : Nat) : Int) - (((madeR bits).length : Nat) : Int))) (by exact E.sub (k := .i64) (a := (((chgR (madeR bits) id).length : Nat) : Int)) (b := (((madeR bits).length : Nat) : Int)) (AF_ev rfl (up rfl (up rfl tp))) (AF_ev rfl tp) (show IntKind.i64.wrap ((((chgR (madeR bits) id).length : Nat) : Int) - (((madeR bits).length : Nat) : Int)) = (((chgR (madeR bits) id).length : Nat) : Int) - (((madeR bits).length : Nat) : Int) from (by rw [IntWalk.i64_in _ (by omega)]))) ?_
    refine RW.soft Wd.a (v := .int .i64 ((((chgR (madeR bits) id).length : Nat) : Int) - (((madeR bits).length : Nat) : Int))) (by exact E.assign (AF_ev rfl tp)) ?_
    refine RW.fin (fun τ => τ 0 = .int .i64 bits ∧ τ 1 = .int .i64 id ∧ τ 4 = .bool false ∧ τ 5 = .bool true ∧ τ 6 = .slice X1 ((madeR bits).length) c2 ∧ τ 7 = .slice X3 ((chgR (madeR bits) id).length) c4 ∧ τ 8 = .int .i64 (chgE (madeR bits) id) ∧ τ 9 = .slice X8 ((madeR bits).length) c9 ∧ τ 10 = .int .i64 0 ∧ τ 11 = .bool true ∧ τ 12 = .int .i64 ((((chgR (madeR bits) id).length : Nat) : Int) - (((madeR bits).length : Nat) : Int)) ∧ τ 23 = .bool false) ⟨up rfl (up rfl (up rfl (up rfl (up rfl (up rfl hs0))))), up rfl (up rfl (up rfl (up rfl (up rfl (up rfl hs1))))), up rfl (up rfl (up rfl (up rfl (up rfl (up rfl hs4))))), up rfl (up rfl (up rfl (up rfl (up rfl (up rfl hs5))))), up rfl (up rfl (up rfl (up rfl (up rfl (up rfl hs6))))), up rfl (up rfl (up rfl (up rfl (up rfl (up rfl hs7))))), up rfl (up rfl (up rfl (up rfl (up rfl (up rfl hs8))))), up rfl (up rfl (up rfl (up rfl (up rfl (up rfl hs9))))), up rfl (up rfl (up rfl (up rfl (up rfl (up rfl hs10))))), up rfl (up rfl (up rfl (up rfl (up rfl (up rfl hs11))))), tp, up rfl (up rfl (up rfl (up rfl (up rfl (up rfl hs23)))))⟩ ?_
    rintro τ ⟨hs0, hs1, hs4, hs5, hs6, hs7, hs8, hs9, hs10, hs11, hs12, hs23⟩
    refine CW.seq ?_
    have hlen := back_len hE0
    refine Or.elim (Bool.eq_false_or_eq_true (((((chgR (madeR bits) id).length : Nat) : Int) - (((madeR bits).length : Nat) : Int)) == 1)) (fun hd1 => ?_) (fun hd1 => ?_)
    · skip
      refine CW.region ?_
      refine RW.soft Wd.a (v := .bool true) (by exact E.move (AF_ev rfl hs5)) ?_
      refine RW.soft Wd.a (v := .bool true) (by exact E.move (AF_ev rfl tp)) ?_
      refine RW.soft (by exact Wd.yes (x := 60) rfl (AF_ev rfl tp)) (v := .slice X3 ((chgR (madeR bits) id).length) c4) (by exact E.move (AF_ev rfl (up rfl (up rfl hs7)))) ?_
      have hst := hst.take (.there .here)
      refine RW.hard (by exact Wd.yes (x := 60) rfl (AF_ev rfl (up rfl tp))) ?_
      refine H.call0 Try.func36 nm36 rfl (map1 (AF_ev rfl tp)) (Calls.mono (q_Check (zs := (chgR (madeR bits) id)) (own_TI (by first | rfl | omega | simp)) (Nat.le_trans (chg_le _ _) (by decide))  hst) ?_)
      rintro _ w ⟨rfl, hst⟩
      refine ⟨_, rfl, ?_⟩
      show RW _ _ _ _ _ _ _
      refine RW.soft (by exact Wd.yes (x := 60) rfl (AF_ev rfl (up rfl (up rfl tp)))) (v := .bool true) (by exact E.b (a := (checkI (chgR (madeR bits) id)) == 0) (E.eql (k := .i64) (a := checkI (chgR (madeR bits) id)) (b := 0) (AF_ev rfl tp) rfl) (by rw [back_ok hE0]; rfl)) ?_
      refine RW.soft Wd.a (v := .bool true) (by exact E.pickT (AF_ev rfl (up rfl (up rfl (up rfl tp)))) (AF_ev rfl tp)) ?_
      refine RW.soft Wd.a (v := .bool true) (by exact E.move (AF_ev rfl tp)) ?_
      refine RW.soft (by exact Wd.yes (x := 65) rfl (AF_ev rfl tp)) (v := .int .i64 0) (by exact E.move (AF_ev rfl (up rfl (up rfl (up rfl (up rfl (up rfl (up rfl (up rfl hs10))))))))) ?_
      refine RW.soft (by exact Wd.yes (x := 65) rfl (AF_ev rfl (up rfl tp))) (v := .bool true) (by exact E.eql (k := .i64) (a := 0) (b := 0) (AF_ev rfl tp) rfl) ?_
      refine RW.soft Wd.a (v := .bool true) (by exact E.pickT (AF_ev rfl (up rfl (up rfl tp))) (AF_ev rfl tp)) ?_
      refine RW.soft Wd.a (v := .bool true) (by exact E.move (AF_ev rfl tp)) ?_
      refine RW.soft (by exact Wd.yes (x := 69) rfl (AF_ev rfl tp)) (v := .bool true) (by exact E.move (AF_ev rfl (up rfl (up rfl (up rfl (up rfl (up rfl (up rfl (up rfl (up rfl (up rfl (up rfl (up rfl hs11))))))))))))) ?_
      refine RW.soft Wd.a (v := .bool true) (by exact E.pickT (AF_ev rfl (up rfl tp)) (AF_ev rfl tp)) ?_
      refine RW.soft Wd.a (v := .bool true) (by exact E.move (AF_ev rfl tp)) ?_
      refine RW.soft (by exact Wd.yes (x := 72) rfl (AF_ev rfl tp)) (v := .int .i64 ((((chgR (madeR bits) id).length : Nat) : Int) - (((madeR bits).length : Nat) : Int))) (by exact E.move (AF_ev rfl (up rfl (up rfl (up rfl (up rfl (up rfl (up rfl (up rfl (up rfl (up rfl (up rfl (up rfl (up rfl (up rfl (up rfl hs12)))))))))))))))) ?_
      refine RW.soft (by exact Wd.yes (x := 72) rfl (AF_ev rfl (up rfl tp))) (v := .bool true) (by exact E.b (a := ((((chgR (madeR bits) id).length : Nat) : Int) - (((madeR bits).length : Nat) : Int)) == 1) (E.eql (k := .i64) (a := (((chgR (madeR bits) id).length : Nat) : Int) - (((madeR bits).length : Nat) : Int)) (b := 1) (AF_ev rfl tp) rfl) hd1) ?_
      refine RW.soft (by exact Wd.yes (x := 72) rfl (AF_ev rfl (up rfl (up rfl tp)))) (v := .bool true) (by exact E.move (AF_ev rfl tp)) ?_
      refine RW.pass (by exact Wd.no (x := 75) (b := true) rfl (AF_ev rfl tp) rfl) ?_
      refine RW.pass (by exact Wd.no (x := 75) (b := true) rfl (AF_ev rfl (up rfl tp)) rfl) ?_
      refine RW.soft (by exact Wd.yes (x := 72) rfl (AF_ev rfl (up rfl (up rfl (up rfl (up rfl (up rfl tp))))))) (v := .bool true) (by exact E.pickT (AF_ev rfl (up rfl (up rfl tp))) rfl) ?_
      refine RW.soft Wd.a (v := .bool true) (by exact E.pickT (AF_ev rfl (up rfl (up rfl (up rfl (up rfl (up rfl (up rfl tp))))))) (AF_ev rfl tp)) ?_
      refine RW.soft Wd.a (v := .bool true) (by exact E.move (AF_ev rfl tp)) ?_
      refine RW.soft (by exact Wd.yes (x := 80) rfl (AF_ev rfl tp)) (v := .slice X3 ((chgR (madeR bits) id).length) c4) (by exact E.move (AF_ev rfl (up rfl (up rfl (up rfl (up rfl (up rfl (up rfl (up rfl (up rfl (up rfl (up rfl (up rfl (up rfl (up rfl (up rfl (up rfl (up rfl (up rfl (up rfl (up rfl (up rfl (up rfl (up rfl hs7)))))))))))))))))))))))) ?_
      refine RW.soft (by exact Wd.yes (x := 80) rfl (AF_ev rfl (up rfl tp))) (v := .int .i64 id) (by exact E.move (AF_ev rfl (up rfl (up rfl (up rfl (up rfl (up rfl (up rfl (up rfl (up rfl (up rfl (up rfl (up rfl (up rfl (up rfl (up rfl (up rfl (up rfl (up rfl (up rfl (up rfl (up rfl (up rfl (up rfl (up rfl hs1))))))))))))))))))))))))) ?_
      refine RW.hard (by exact Wd.yes (x := 80) rfl (AF_ev rfl (up rfl (up rfl tp)))) ?_
      refine H.call0 Try.func38 nm38 rfl (map2 (AF_ev rfl (up rfl tp)) (AF_ev rfl tp)) (Calls.mono (q_Has (zs := (chgR (madeR bits) id)) (own_TI (by first | rfl | omega | simp)) (Nat.le_trans (chg_le _ _) (by decide)) id hst) ?_)
      rintro _ w ⟨rfl, hst⟩
      refine ⟨_, rfl, ?_⟩
      show RW _ _ _ _ _ _ _
      refine RW.soft (by exact Wd.yes (x := 80) rfl (AF_ev rfl (up rfl (up rfl (up rfl tp))))) (v := .slice X1 ((madeR bits).length) c2) (by exact E.move (AF_ev rfl (up rfl (up rfl (up rfl (up rfl (up rfl (up rfl (up rfl (up rfl (up rfl (up rfl (up rfl (up rfl (up rfl (up rfl (up rfl (up rfl (up rfl (up rfl (up rfl (up rfl (up rfl (up rfl (up rfl (up rfl (up rfl hs6))))))))))))))))))))))))))) ?_
      refine RW.soft (by exact Wd.yes (x := 80) rfl (AF_ev rfl (up rfl (up rfl (up rfl (up rfl tp)))))) (v := .int .i64 id) (by exact E.move (AF_ev rfl (up rfl (up rfl (up rfl (up rfl (up rfl (up rfl (up rfl (up rfl (up rfl (up rfl (up rfl (up rfl (up rfl (up rfl (up rfl (up rfl (up rfl (up rfl (up rfl (up rfl (up rfl (up rfl (up rfl (up rfl (up rfl (up rfl hs1)))))))))))))))))))))))))))) ?_
      have hst := hst.emp
      refine RW.hard (by exact Wd.yes (x := 80) rfl (AF_ev rfl (up rfl (up rfl (up rfl (up rfl (up rfl tp))))))) ?_
      refine H.call0 Try.func38 nm38 rfl (map2 (AF_ev rfl (up rfl tp)) (AF_ev rfl tp)) (Calls.mono (q_Has (zs := (madeR bits)) hLX1.tells (Nat.le_trans (made_le _) (by decide)) id hst) ?_)
      rintro _ w ⟨rfl, hst⟩
      have hst := hst.drop
      refine ⟨_, rfl, ?_⟩
      show RW _ _ _ _ _ _ _
      refine RW.soft (by exact Wd.yes (x := 80) rfl (AF_ev rfl (up rfl (up rfl (up rfl (up rfl (up rfl (up rfl tp)))))))) (v := .bool true) (by exact E.b (a := ((chgR (madeR bits) id).contains id) != ((madeR bits).contains id)) (E.neqB (a := (chgR (madeR bits) id).contains id) (b := (madeR bits).contains id) Try.underlying4 (AF_ev rfl (up rfl (up rfl (up rfl tp)))) (AF_ev rfl tp)) (back_has hE0)) ?_
      refine RW.soft Wd.a (v := .bool true) (by exact E.pickT (AF_ev rfl (up rfl (up rfl (up rfl (up rfl (up rfl (up rfl (up rfl tp)))))))) (AF_ev rfl tp)) ?_
      refine RW.soft Wd.a (v := .bool true) (by exact E.assign (AF_ev rfl tp)) ?_
      refine RW.fin (fun τ => τ 0 = .int .i64 bits ∧ τ 1 = .int .i64 id ∧ τ 4 = .bool true ∧ τ 5 = .bool true ∧ τ 6 = .slice X1 ((madeR bits).length) c2 ∧ τ 7 = .slice X3 ((chgR (madeR bits) id).length) c4 ∧ τ 8 = .int .i64 (chgE (madeR bits) id) ∧ τ 9 = .slice X8 ((madeR bits).length) c9 ∧ τ 10 = .int .i64 0 ∧ τ 11 = .bool true ∧ τ 12 = .int .i64 ((((chgR (madeR bits) id).length : Nat) : Int) - (((madeR bits).length : Nat) : Int)) ∧ τ 23 = .bool false) ⟨up rfl (up rfl (up rfl (up rfl (up rfl (up rfl (up rfl (up rfl (up rfl (up rfl (up rfl (up rfl (up rfl (up rfl (up rfl (up rfl (up rfl (up rfl (up rfl (up rfl (up rfl (up rfl (up rfl (up rfl (up rfl (up rfl (up rfl (up rfl (up rfl (up rfl (up rfl hs0)))))))))))))))))))))))))))))), up rfl (up rfl (up rfl (up rfl (up rfl (up rfl (up rfl (up rfl (up rfl (up rfl (up rfl (up rfl (up rfl (up rfl (up rfl (up rfl (up rfl (up rfl (up rfl (up rfl (up rfl (up rfl (up rfl (up rfl (up rfl (up rfl (up rfl (up rfl (up rfl (up rfl (up rfl hs1)))))))))))))))))))))))))))))), tp, up rfl (up rfl (up rfl (up rfl (up rfl (up rfl (up rfl (up rfl (up rfl (up rfl (up rfl (up rfl (up rfl (up rfl (up rfl (up rfl (up rfl (up rfl (up rfl (up rfl (up rfl (up rfl (up rfl (up rfl (up rfl (up rfl (up rfl (up rfl (up rfl (up rfl (up rfl hs5)))))))))))))))))))))))))))))), up rfl (up rfl (up rfl (up rfl (up rfl (up rfl (up rfl (up rfl (up rfl (up rfl (up rfl (up rfl (up rfl (up rfl (up rfl (up rfl (up rfl (up rfl (up rfl (up rfl (up rfl (up rfl (up rfl (up rfl (up rfl (up rfl (up rfl (up rfl (up rfl (up rfl (up rfl hs6)))))))))))))))))))))))))))))), up rfl (up rfl (up rfl (up rfl (up rfl (up rfl (up rfl (up rfl (up rfl (up rfl (up rfl (up rfl (up rfl (up rfl (up rfl (up rfl (up rfl (up rfl (up rfl (up rfl (up rfl (up rfl (up rfl (up rfl (up rfl (up rfl (up rfl (up rfl (up rfl (up rfl (up rfl hs7)))))))))))))))))))))))))))))), up rfl (up rfl (up rfl (up rfl (up rfl (up rfl (up rfl (up rfl (up rfl (up rfl (up rfl (up rfl (up rfl (up rfl (up rfl (up rfl (up rfl (up rfl (up rfl (up rfl (up rfl (up rfl (up rfl (up rfl (up rfl (up rfl (up rfl (up rfl (up rfl (up rfl (up rfl hs8)))))))))))))))))))))))))))))), up rfl (up rfl (up rfl (up rfl (up rfl (up rfl (up rfl (up rfl (up rfl (up rfl (up rfl (up rfl (up rfl (up rfl (up rfl (up rfl (up rfl (up rfl (up rfl (up rfl (up rfl (up rfl (up rfl (up rfl (up rfl (up rfl (up rfl (up rfl (up rfl (up rfl (up rfl hs9)))))))))))))))))))))))))))))), up rfl (up rfl (up rfl (up rfl (up rfl (up rfl (up rfl (up rfl (up rfl (up rfl (up rfl (up rfl (up rfl (up rfl (up rfl (up rfl (up rfl (up rfl (up rfl (up rfl (up rfl (up rfl (up rfl (up rfl (up rfl (up rfl (up rfl (up rfl (up rfl (up rfl (up rfl hs10)))))))))))))))))))))))))))))), up rfl (up rfl (up rfl (up rfl (up rfl (up rfl (up rfl (up rfl (up rfl (up rfl (up rfl (up rfl (up rfl (up rfl (up rfl (up rfl (up rfl (up rfl (up rfl (up rfl (up rfl (up rfl (up rfl (up rfl (up rfl (up rfl (up rfl (up rfl (up rfl (up rfl (up rfl hs11)))))))))))))))))))))))))))))), up rfl (up rfl (up rfl (up rfl (up rfl (up rfl (up rfl (up rfl (up rfl (up rfl (up rfl (up rfl (up rfl (up rfl (up rfl (up rfl (up rfl (up rfl (up rfl (up rfl (up rfl (up rfl (up rfl (up rfl (up rfl (up rfl (up rfl (up rfl (up rfl (up rfl (up rfl hs12)))))))))))))))))))))))))))))), up rfl (up rfl (up rfl (up rfl (up rfl (up rfl (up rfl (up rfl (up rfl (up rfl (up rfl (up rfl (up rfl (up rfl (up rfl (up rfl (up rfl (up rfl (up rfl (up rfl (up rfl (up rfl (up rfl (up rfl (up rfl (up rfl (up rfl (up rfl (up rfl (up rfl (up rfl hs23))))))))))))))))))))))))))))))⟩ ?_
      rintro τ ⟨hs0, hs1, hs4, hs5, hs6, hs7, hs8, hs9, hs10, hs11, hs12, hs23⟩
      refine CW.ret ?_
      refine ret1 (v := .bool true) rfl (by exact (.tmp (AF_ev rfl hs4) .nil)) ?_
      have hst := (hst.take .here).drop
      have hst := (hst.take .here).drop
      exact ⟨p, hleX1, rfl, hst⟩
    · skip
      refine CW.region ?_
      refine RW.soft Wd.a (v := .bool true) (by exact E.move (AF_ev rfl hs5)) ?_
      refine RW.soft Wd.a (v := .bool true) (by exact E.move (AF_ev rfl tp)) ?_
      refine RW.soft (by exact Wd.yes (x := 60) rfl (AF_ev rfl tp)) (v := .slice X3 ((chgR (madeR bits) id).length) c4) (by exact E.move (AF_ev rfl (up rfl (up rfl hs7)))) ?_
      have hst := hst.take (.there .here)
      refine RW.hard (by exact Wd.yes (x := 60) rfl (AF_ev rfl (up rfl tp))) ?_
      refine H.call0 Try.func36 nm36 rfl (map1 (AF_ev rfl tp)) (Calls.mono (q_Check (zs := (chgR (madeR bits) id)) (own_TI (by first | rfl | omega | simp)) (Nat.le_trans (chg_le _ _) (by decide))  hst) ?_)
      rintro _ w ⟨rfl, hst⟩
      refine ⟨_, rfl, ?_⟩
      show RW _ _ _ _ _ _ _
      refine RW.soft (by exact Wd.yes (x := 60) rfl (AF_ev rfl (up rfl (up rfl tp)))) (v := .bool true) (by exact E.b (a := (checkI (chgR (madeR bits) id)) == 0) (E.eql (k := .i64) (a := checkI (chgR (madeR bits) id)) (b := 0) (AF_ev rfl tp) rfl) (by rw [back_ok hE0]; rfl)) ?_
      refine RW.soft Wd.a (v := .bool true) (by exact E.pickT (AF_ev rfl (up rfl (up rfl (up rfl tp)))) (AF_ev rfl tp)) ?_
      refine RW.soft Wd.a (v := .bool true) (by exact E.move (AF_ev rfl tp)) ?_
      refine RW.soft (by exact Wd.yes (x := 65) rfl (AF_ev rfl tp)) (v := .int .i64 0) (by exact E.move (AF_ev rfl (up rfl (up rfl (up rfl (up rfl (up rfl (up rfl (up rfl hs10))))))))) ?_
      refine RW.soft (by exact Wd.yes (x := 65) rfl (AF_ev rfl (up rfl tp))) (v := .bool true) (by exact E.eql (k := .i64) (a := 0) (b := 0) (AF_ev rfl tp) rfl) ?_
      refine RW.soft Wd.a (v := .bool true) (by exact E.pickT (AF_ev rfl (up rfl (up rfl tp))) (AF_ev rfl tp)) ?_
      refine RW.soft Wd.a (v := .bool true) (by exact E.move (AF_ev rfl tp)) ?_
      refine RW.soft (by exact Wd.yes (x := 69) rfl (AF_ev rfl tp)) (v := .bool true) (by exact E.move (AF_ev rfl (up rfl (up rfl (up rfl (up rfl (up rfl (up rfl (up rfl (up rfl (up rfl (up rfl (up rfl hs11))))))))))))) ?_
      refine RW.soft Wd.a (v := .bool true) (by exact E.pickT (AF_ev rfl (up rfl tp)) (AF_ev rfl tp)) ?_
      refine RW.soft Wd.a (v := .bool true) (by exact E.move (AF_ev rfl tp)) ?_
      refine RW.soft (by exact Wd.yes (x := 72) rfl (AF_ev rfl tp)) (v := .int .i64 ((((chgR (madeR bits) id).length : Nat) : Int) - (((madeR bits).length : Nat) : Int))) (by exact E.move (AF_ev rfl (up rfl (up rfl (up rfl (up rfl (up rfl (up rfl (up rfl (up rfl (up rfl (up rfl (up rfl (up rfl (up rfl (up rfl hs12)))))))))))))))) ?_
      refine RW.soft (by exact Wd.yes (x := 72) rfl (AF_ev rfl (up rfl tp))) (v := .bool false) (by exact E.b (a := ((((chgR (madeR bits) id).length : Nat) : Int) - (((madeR bits).length : Nat) : Int)) == 1) (E.eql (k := .i64) (a := (((chgR (madeR bits) id).length : Nat) : Int) - (((madeR bits).length : Nat) : Int)) (b := 1) (AF_ev rfl tp) rfl) hd1) ?_
      refine RW.soft (by exact Wd.yes (x := 72) rfl (AF_ev rfl (up rfl (up rfl tp)))) (v := .bool false) (by exact E.move (AF_ev rfl tp)) ?_
      refine RW.soft (by exact Wd.yes (x := 75) rfl (AF_ev rfl tp)) (v := .int .i64 ((((chgR (madeR bits) id).length : Nat) : Int) - (((madeR bits).length : Nat) : Int))) (by exact E.move (AF_ev rfl (up rfl (up rfl (up rfl (up rfl (up rfl (up rfl (up rfl (up rfl (up rfl (up rfl (up rfl (up rfl (up rfl (up rfl (up rfl (up rfl (up rfl hs12))))))))))))))))))) ?_
      refine RW.soft (by exact Wd.yes (x := 75) rfl (AF_ev rfl (up rfl tp))) (v := .bool true) (by exact E.b (a := ((((chgR (madeR bits) id).length : Nat) : Int) - (((madeR bits).length : Nat) : Int)) == (-1)) (E.eql (k := .i64) (a := (((chgR (madeR bits) id).length : Nat) : Int) - (((madeR bits).length : Nat) : Int)) (b := -1) (AF_ev rfl tp) rfl) (by have h1_ := hd1; rw [beq_eq_false_iff_ne] at h1_; rw [beq_iff_eq]; omega)) ?_
      refine RW.soft (by exact Wd.yes (x := 72) rfl (AF_ev rfl (up rfl (up rfl (up rfl (up rfl (up rfl tp))))))) (v := .bool true) (by exact E.pickF (AF_ev rfl (up rfl (up rfl tp))) (AF_ev rfl tp)) ?_
      refine RW.soft Wd.a (v := .bool true) (by exact E.pickT (AF_ev rfl (up rfl (up rfl (up rfl (up rfl (up rfl (up rfl tp))))))) (AF_ev rfl tp)) ?_
      refine RW.soft Wd.a (v := .bool true) (by exact E.move (AF_ev rfl tp)) ?_
      refine RW.soft (by exact Wd.yes (x := 80) rfl (AF_ev rfl tp)) (v := .slice X3 ((chgR (madeR bits) id).length) c4) (by exact E.move (AF_ev rfl (up rfl (up rfl (up rfl (up rfl (up rfl (up rfl (up rfl (up rfl (up rfl (up rfl (up rfl (up rfl (up rfl (up rfl (up rfl (up rfl (up rfl (up rfl (up rfl (up rfl (up rfl (up rfl hs7)))))))))))))))))))))))) ?_
      refine RW.soft (by exact Wd.yes (x := 80) rfl (AF_ev rfl (up rfl tp))) (v := .int .i64 id) (by exact E.move (AF_ev rfl (up rfl (up rfl (up rfl (up rfl (up rfl (up rfl (up rfl (up rfl (up rfl (up rfl (up rfl (up rfl (up rfl (up rfl (up rfl (up rfl (up rfl (up rfl (up rfl (up rfl (up rfl (up rfl (up rfl hs1))))))))))))))))))))))))) ?_
      refine RW.hard (by exact Wd.yes (x := 80) rfl (AF_ev rfl (up rfl (up rfl tp)))) ?_
      refine H.call0 Try.func38 nm38 rfl (map2 (AF_ev rfl (up rfl tp)) (AF_ev rfl tp)) (Calls.mono (q_Has (zs := (chgR (madeR bits) id)) (own_TI (by first | rfl | omega | simp)) (Nat.le_trans (chg_le _ _) (by decide)) id hst) ?_)
      rintro _ w ⟨rfl, hst⟩
      refine ⟨_, rfl, ?_⟩
      show RW _ _ _ _ _ _ _
      refine RW.soft (by exact Wd.yes (x := 80) rfl (AF_ev rfl (up rfl (up rfl (up rfl tp))))) (v := .slice X1 ((madeR bits).length) c2) (by exact E.move (AF_ev rfl (up rfl (up rfl (up rfl (up rfl (up rfl (up rfl (up rfl (up rfl (up rfl (up rfl (up rfl (up rfl (up rfl (up rfl (up rfl (up rfl (up rfl (up rfl (up rfl (up rfl (up rfl (up rfl (up rfl (up rfl (up rfl hs6))))))))))))))))))))))))))) ?_
      refine RW.soft (by exact Wd.yes (x := 80) rfl (AF_ev rfl (up rfl (up rfl (up rfl (up rfl tp)))))) (v := .int .i64 id) (by exact E.move (AF_ev rfl (up rfl (up rfl (up rfl (up rfl (up rfl (up rfl (up rfl (up rfl (up rfl (up rfl (up rfl (up rfl (up rfl (up rfl (up rfl (up rfl (up rfl (up rfl (up rfl (up rfl (up rfl (up rfl (up rfl (up rfl (up rfl (up rfl hs1)))))))))))))))))))))))))))) ?_
      have hst := hst.emp
      refine RW.hard (by exact Wd.yes (x := 80) rfl (AF_ev rfl (up rfl (up rfl (up rfl (up rfl (up rfl tp))))))) ?_
      refine H.call0 Try.func38 nm38 rfl (map2 (AF_ev rfl (up rfl tp)) (AF_ev rfl tp)) (Calls.mono (q_Has (zs := (madeR bits)) hLX1.tells (Nat.le_trans (made_le _) (by decide)) id hst) ?_)
      rintro _ w ⟨rfl, hst⟩
      have hst := hst.drop
      refine ⟨_, rfl, ?_⟩
      show RW _ _ _ _ _ _ _
      refine RW.soft (by exact Wd.yes (x := 80) rfl (AF_ev rfl (up rfl (up rfl (up rfl (up rfl (up rfl (up rfl tp)))))))) (v := .bool true) (by exact E.b (a := ((chgR (madeR bits) id).contains id) != ((madeR bits).contains id)) (E.neqB (a := (chgR (madeR bits) id).contains id) (b := (madeR bits).contains id) Try.underlying4 (AF_ev rfl (up rfl (up rfl (up rfl tp)))) (AF_ev rfl tp)) (back_has hE0)) ?_
      refine RW.soft Wd.a (v := .bool true) (by exact E.pickT (AF_ev rfl (up rfl (up rfl (up rfl (up rfl (up rfl (up rfl (up rfl tp)))))))) (AF_ev rfl tp)) ?_
      refine RW.soft Wd.a (v := .bool true) (by exact E.assign (AF_ev rfl tp)) ?_
      refine RW.fin (fun τ => τ 0 = .int .i64 bits ∧ τ 1 = .int .i64 id ∧ τ 4 = .bool true ∧ τ 5 = .bool true ∧ τ 6 = .slice X1 ((madeR bits).length) c2 ∧ τ 7 = .slice X3 ((chgR (madeR bits) id).length) c4 ∧ τ 8 = .int .i64 (chgE (madeR bits) id) ∧ τ 9 = .slice X8 ((madeR bits).length) c9 ∧ τ 10 = .int .i64 0 ∧ τ 11 = .bool true ∧ τ 12 = .int .i64 ((((chgR (madeR bits) id).length : Nat) : Int) - (((madeR bits).length : Nat) : Int)) ∧ τ 23 = .bool false) ⟨up rfl (up rfl (up rfl (up rfl (up rfl (up rfl (up rfl (up rfl (up rfl (up rfl (up rfl (up rfl (up rfl (up rfl (up rfl (up rfl (up rfl (up rfl (up rfl (up rfl (up rfl (up rfl (up rfl (up rfl (up rfl (up rfl (up rfl (up rfl (up rfl (up rfl (up rfl hs0)))))))))))))))))))))))))))))), up rfl (up rfl (up rfl (up rfl (up rfl (up rfl (up rfl (up rfl (up rfl (up rfl (up rfl (up rfl (up rfl (up rfl (up rfl (up rfl (up rfl (up rfl (up rfl (up rfl (up rfl (up rfl (up rfl (up rfl (up rfl (up rfl (up rfl (up rfl (up rfl (up rfl (up rfl hs1)))))))))))))))))))))))))))))), tp, up rfl (up rfl (up rfl (up rfl (up rfl (up rfl (up rfl (up rfl (up rfl (up rfl (up rfl (up rfl (up rfl (up rfl (up rfl (up rfl (up rfl (up rfl (up rfl (up rfl (up rfl (up rfl (up rfl (up rfl (up rfl (up rfl (up rfl (up rfl (up rfl (up rfl (up rfl hs5)))))))))))))))))))))))))))))), up rfl (up rfl (up rfl (up rfl (up rfl (up rfl (up rfl (up rfl (up rfl (up rfl (up rfl (up rfl (up rfl (up rfl (up rfl (up rfl (up rfl (up rfl (up rfl (up rfl (up rfl (up rfl (up rfl (up rfl (up rfl (up rfl (up rfl (up rfl (up rfl (up rfl (up rfl hs6)))))))))))))))))))))))))))))), up rfl (up rfl (up rfl (up rfl (up rfl (up rfl (up rfl (up rfl (up rfl (up rfl (up rfl (up rfl (up rfl (up rfl (up rfl (up rfl (up rfl (up rfl (up rfl (up rfl (up rfl (up rfl (up rfl (up rfl (up rfl (up rfl (up rfl (up rfl (up rfl (up rfl (up rfl hs7)))))))))))))))))))))))))))))), up rfl (up rfl (up rfl (up rfl (up rfl (up rfl (up rfl (up rfl (up rfl (up rfl (up rfl (up rfl (up rfl (up rfl (up rfl (up rfl (up rfl (up rfl (up rfl (up rfl (up rfl (up rfl (up rfl (up rfl (up rfl (up rfl (up rfl (up rfl (up rfl (up rfl (up rfl hs8)))))))))))))))))))))))))))))), up rfl (up rfl (up rfl (up rfl (up rfl (up rfl (up rfl (up rfl (up rfl (up rfl (up rfl (up rfl (up rfl (up rfl (up rfl (up rfl (up rfl (up rfl (up rfl (up rfl (up rfl (up rfl (up rfl (up rfl (up rfl (up rfl (up rfl (up rfl (up rfl (up rfl (up rfl hs9)))))))))))))))))))))))))))))), up rfl (up rfl (up rfl (up rfl (up rfl (up rfl (up rfl (up rfl (up rfl (up rfl (up rfl (up rfl (up rfl (up rfl (up rfl (up rfl (up rfl (up rfl (up rfl (up rfl (up rfl (up rfl (up rfl (up rfl (up rfl (up rfl (up rfl (up rfl (up rfl (up rfl (up rfl hs10)))))))))))))))))))))))))))))), up rfl (up rfl (up rfl (up rfl (up rfl (up rfl (up rfl (up rfl (up rfl (up rfl (up rfl (up rfl (up rfl (up rfl (up rfl (up rfl (up rfl (up rfl (up rfl (up rfl (up rfl (up rfl (up rfl (up rfl (up rfl (up rfl (up rfl (up rfl (up rfl (up rfl (up rfl hs11)))))))))))))))))))))))))))))), up rfl (up rfl (up rfl (up rfl (up rfl (up rfl (up rfl (up rfl (up rfl (up rfl (up rfl (up rfl (up rfl (up rfl (up rfl (up rfl (up rfl (up rfl (up rfl (up rfl (up rfl (up rfl (up rfl (up rfl (up rfl (up rfl (up rfl (up rfl (up rfl (up rfl (up rfl hs12)))))))))))))))))))))))))))))), up rfl (up rfl (up rfl (up rfl (up rfl (up rfl (up rfl (up rfl (up rfl (up rfl (up rfl (up rfl (up rfl (up rfl (up rfl (up rfl (up rfl (up rfl (up rfl (up rfl (up rfl (up rfl (up rfl (up rfl (up rfl (up rfl (up rfl (up rfl (up rfl (up rfl (up rfl hs23))))))))))))))))))))))))))))))⟩ ?_
      rintro τ ⟨hs0, hs1, hs4, hs5, hs6, hs7, hs8, hs9, hs10, hs11, hs12, hs23⟩
      refine CW.ret ?_
      refine ret1 (v := .bool true) rfl (by exact (.tmp (AF_ev rfl hs4) .nil)) ?_
      have hst := (hst.take .here).drop
      have hst := (hst.take .here).drop
      exact ⟨p, hleX1, rfl, hst⟩
end Go.Proofs.Ytjagffnbobnofaa
